/- brepkernelmade: Part. -/
import Derived.Test.YtppeigelbecpbaaGreatB33
import Derived.Test.YtppeigelbecpbaaGreatZ2
import Init
set_option linter.unusedVariables false
namespace Go.Am.B
open Go Go.Am.N AV
theorem U0:aO P CG x4 (au x4):=aQ UJ (by kernel_rfl) (by kernel_rfl) (by kernel_rfl)
def SY:aR:=[(sZ,Gf),(oK,yG)]
theorem SU {d:Int}:bF T SY [] 60 x4 (au x4) ⟨aN 0 [.int .i64 d],[],0⟩=
  some (aa.ag [(17:Int)≠(0:Int),(0:Int)<(12:Int),(12:Int)<(2:Int)^62] (aa.ag [(0:Int)<IntKind.i64.wrap (IntKind.i64.wrap ((1:Int)+IntKind.i64.wrap (d.tdiv (17:Int))%(12:Int))+(1:Int)),IntKind.i64.wrap (IntKind.i64.wrap ((1:Int)+IntKind.i64.wrap (d.tdiv (17:Int))%(12:Int))+(1:Int))<(2:Int)^62,-(2:Int)^63≤d%IntKind.i64.wrap (IntKind.i64.wrap ((1:Int)+IntKind.i64.wrap (d.tdiv (17:Int))%(12:Int))+(1:Int)),d%IntKind.i64.wrap (IntKind.i64.wrap ((1:Int)+IntKind.i64.wrap (d.tdiv (17:Int))%(12:Int))+(1:Int))<(2:Int)^63,-(2:Int)^63≤IntKind.i64.wrap ((1:Int)+IntKind.i64.wrap (d.tdiv (17:Int))%(12:Int)),IntKind.i64.wrap ((1:Int)+IntKind.i64.wrap (d.tdiv (17:Int))%(12:Int))<(2:Int)^63,(0:Nat)<1] (aa.ag [(0:Nat)<1] (aa.leaf aj.ret [rat ((↑(d%IntKind.i64.wrap (IntKind.i64.wrap ((1:Int)+IntKind.i64.wrap (d.tdiv (17:Int))%(12:Int))+(1:Int))):Rat)/(↑(IntKind.i64.wrap ((1:Int)+IntKind.i64.wrap (d.tdiv (17:Int))%(12:Int))):Rat)) 64])))):=by kernel_rfl
def uN (d:Int):Int:=1+IntKind.i64.wrap (d.tdiv 17)%12
def lY (d:Int):Rat:=((d%(uN d+1):Int):Rat)/((uN d:Int):Rat)
def M9:Spec:=bC fun l=>match l with
 |[.int .i64 d]=>some (aK (.rat (lY d) 64) [])
 |_=>none
theorem TO:∀K args pre r,M9 K args pre=some r→aB P CG K args pre r:=by
 refine bV fun K args r hk hs _=>?_
 split at hs
 ·rename_i d
  simp only[Option.some.injEq]at hs
  subst hs
  refine bJ hT (aG Lq (aG B3 bk)) hm U0 rfl (of_decide_eq_true (by kernel_rfl)) rfl 60 SU (fun _=>?_) K []
  unfold lY uN
  generalize IntKind.i64.wrap (d.tdiv 17)=w at*
  have w1:=Int.emod_nonneg w (show(12:Int)≠0 by omega)
  have w2:=Int.emod_lt_of_pos w (show(0:Int)<12 by omega)
  generalize w%12=x at*
  have e1:IntKind.i64.wrap (1+x)=1+x:=wrap_i64 (by omega) (by omega)
  have e2:IntKind.i64.wrap (1+x+1)=1+x+1:=wrap_i64 (by omega) (by omega)
  rw[e1,e2]
  have v1:=Int.emod_nonneg d (show 1+x+1≠0 by omega)
  have v2:=Int.emod_lt_of_pos d (show 0<1+x+1 by omega)
  generalize d%(1+x+1)=y at*
  simp only[aa.all,ax]
  exact⟨⟨by omega,by omega,by omega⟩,⟨by omega,by omega,by omega,by omega,by omega,by omega,by omega⟩,by omega,.refl _⟩
 ·simp at hs
end Go.Am.B

/- aR by the shape of the arguments: numbers, points, planes, maps. -/
namespace Go.Am.B
open Go Go.Am.N AV
@[ext] structure V3 where
 x:Rat
 y:Rat
 z:Rat
structure Pl where
 n:V3
 d:Rat
structure M3 where
 a:V3
 b:V3
 c:V3
structure Mp where
 m:M3
 t:V3
abbrev rA (q:Rat) (n:Nat):AV:=.rat q n
abbrev vA (v:V3) (n:Nat):AV:=.agg [.rat v.x n,.rat v.y n,.rat v.z n]
abbrev bu (p:Pl) (n:Nat):AV:=.agg [vA p.n n,.rat p.d n]
abbrev Ct (m:M3) (n:Nat):AV:=.agg [vA m.a n,vA m.b n,vA m.c n]
abbrev lW (m:Mp) (n:Nat):AV:=.agg [Ct m.m n,vA m.t n]
theorem bS {q r:Rat} {n k:Nat} (h:q=r) (hk:n≤k):bB (.rat q n) (.rat r k):=h▸fC hk
theorem lT {u v:V3} {n k:Nat} (h:u=v) (hk:n≤k):bB (vA u n) (vA v k):=
 h▸dn ⟨bS rfl hk,bS rfl hk,bS rfl hk,trivial⟩
structure Kind (α:Type) where
 read:AV→Option (α×List Prop)
 make:α→AV
 ok:∀{v:AV} {a:α} {q:List Prop},read v=some (a,q)→ax q→bB v (make a)
def iS:AV→Option (Rat×Nat)
 |.rat q n=>some (q,n)
 |.agg [.bool false,.mag 0,.mag 0]=>some (0,1)
 |_=>none
theorem jv {v:AV} {a:Rat×Nat} (h:iS v=some a):bB v (rA a.1 a.2):=by
 unfold iS at h
 split at h
 ·simp only[Option.some.injEq]at h;subst h;exact .refl _
 ·simp only[Option.some.injEq]at h;subst h;exact lR
 ·simp at h
def ru:AV→Option ((V3×Nat)×List Prop)
 |.agg [x,y,z]=>match iS x,iS y,iS z with
  |some (x,a),some (y,b),some (z,c)=>some ((⟨x,y,z⟩,a),[b≤a,c≤a])
  |_,_,_=>none
 |_=>none
theorem vT {v:AV} {a:V3×Nat} {q:List Prop} (h:ru v=some (a,q)) (hq:ax q):bB v (vA a.1 a.2):=by
 unfold ru at h
 split at h
 ·split at h
  ·rename_i h1 h2 h3
   simp only[Option.some.injEq,Prod.mk.injEq]at h
   obtain⟨rfl,rfl⟩:=h
   exact dn ⟨jv h1,(jv h2).trans (bS rfl hq.1),(jv h3).trans (bS rfl hq.2),trivial⟩
  ·simp at h
 ·simp at h
def DS:AV→Option ((Pl×Nat)×List Prop)
 |.agg [v,d]=>match ru v,iS d with
  |some ((v,a),q),some (d,b)=>some ((⟨v,d⟩,max a b),q)
  |_,_=>none
 |_=>none
theorem Sv {v:AV} {a:Pl×Nat} {q:List Prop} (h:DS v=some (a,q)) (hq:ax q):bB v (bu a.1 a.2):=by
 unfold DS at h
 split at h
 ·split at h
  ·rename_i h1 h2
   simp only[Option.some.injEq,Prod.mk.injEq]at h
   obtain⟨rfl,rfl⟩:=h
   exact dn ⟨(vT h1 hq).trans (lT rfl (by simp only;omega)),(jv h2).trans (bS rfl (by simp only;omega)),trivial⟩
  ·simp at h
 ·simp at h
def ID:AV→Option ((M3×Nat)×List Prop)
 |.agg [x,y,z]=>match ru x,ru y,ru z with
  |some ((x,a),p),some ((y,b),q),some ((z,c),r)=>some ((⟨x,y,z⟩,a),[b≤a,c≤a]++(p++(q++r)))
  |_,_,_=>none
 |_=>none
theorem XK {v:AV} {a:M3×Nat} {q:List Prop} (h:ID v=some (a,q)) (hq:ax q):bB v (Ct a.1 a.2):=by
 unfold ID at h
 split at h
 ·split at h
  ·rename_i h1 h2 h3
   simp only[Option.some.injEq,Prod.mk.injEq]at h
   obtain⟨rfl,rfl⟩:=h
   obtain⟨q1,q2⟩:=dG.1 hq
   obtain⟨q2,q3⟩:=dG.1 q2
   obtain⟨q3,q4⟩:=dG.1 q3
   exact dn ⟨vT h1 q2,(vT h2 q3).trans (lT rfl q1.1),(vT h3 q4).trans (lT rfl q1.2),trivial⟩
  ·simp at h
 ·simp at h
theorem Rg {u v:M3} {n k:Nat} (h:u=v) (hk:n≤k):bB (Ct u n) (Ct v k):=
 h▸dn ⟨lT rfl hk,lT rfl hk,lT rfl hk,trivial⟩
def IC:AV→Option ((Mp×Nat)×List Prop)
 |.agg [v,d]=>match ID v,ru d with
  |some ((v,a),p),some ((d,b),q)=>some ((⟨v,d⟩,max a b),p++q)
  |_,_=>none
 |_=>none
theorem aa1 {v:AV} {a:Mp×Nat} {q:List Prop} (h:IC v=some (a,q)) (hq:ax q):bB v (lW a.1 a.2):=by
 unfold IC at h
 split at h
 ·split at h
  ·rename_i h1 h2
   simp only[Option.some.injEq,Prod.mk.injEq]at h
   obtain⟨rfl,rfl⟩:=h
   obtain⟨q1,q2⟩:=dG.1 hq
   exact dn ⟨(XK h1 q1).trans (Rg rfl (by simp only;omega)),(vT h2 q2).trans (lT rfl (by simp only;omega)),trivial⟩
  ·simp at h
 ·simp at h
theorem ZG {u v:Mp} {n k:Nat} (h:u=v) (hk:n≤k):bB (lW u n) (lW v k):=
 h▸dn ⟨Rg rfl hk,lT rfl hk,trivial⟩
def Hj (v:AV):Option ((Rat×Nat)×List Prop):=match iS v with
 |some a=>some (a,[])
 |none=>none
theorem S9 {v:AV} {a:Rat×Nat} {q:List Prop} (h:Hj v=some (a,q)) (_:ax q):bB v (rA a.1 a.2):=by
 unfold Hj at h
 split at h
 ·rename_i h1
  simp only[Option.some.injEq,Prod.mk.injEq]at h
  obtain⟨rfl,rfl⟩:=h
  exact jv h1
 ·simp at h
def FG:AV→Option (Int×List Prop)
 |.int .i64 n=>some (n,[])
 |_=>none
theorem abc {v:AV} {a:Int} {q:List Prop} (h:FG v=some (a,q)) (_:ax q):bB v (.int .i64 a):=by
 unfold FG at h
 split at h
 ·simp only[Option.some.injEq,Prod.mk.injEq]at h
  obtain⟨rfl,rfl⟩:=h
  exact .refl _
 ·simp at h
def kR:Kind (Rat×Nat):=⟨Hj,fun a=>rA a.1 a.2,S9⟩
def kPl:Kind (Pl×Nat):=⟨DS,fun a=>bu a.1 a.2,Sv⟩
def kI:Kind Int:=⟨FG,fun a=>.int .i64 a,abc⟩
section specs
variable {α β γ δ:Type} {f:FuncId}
def Iv (k:Kind α) (g:α→AV) (need:α→List Prop):Spec:=bC fun l=>match l with
 |[x]=>match k.read x with
  |some (a,p)=>some (aK (g a) (p++need a))
  |none=>none
 |_=>none
theorem OW {k:Kind α} {g:α→AV} {need:α→List Prop} (h:∀a K,ax (need a)→aB P f K [k.make a] [] (aK (g a) [])):∀K args pre r,Iv k g need K args pre=some r→aB P f K args pre r:=by
 refine bV fun K args r hk hs _=>?_
 split at hs
 ·split at hs
  ·rename_i h1
   simp only[Option.some.injEq]at hs
   subst hs
   intro hn
   obtain⟨n1,hn⟩:=dG.1 hn
   exact gb (h _ K hn) hk ⟨k.ok h1 n1,trivial⟩ [] trivial
  ·simp at hs
 ·simp at hs
def j4 (k:Kind α) (k2:Kind β) (g:α→β→AV) (need:α→β→List Prop):Spec:=bC fun l=>match l with
 |[x,y]=>match k.read x,k2.read y with
  |some (a,p),some (b,q)=>some (aK (g a b) (p++(q++need a b)))
  |_,_=>none
 |_=>none
theorem kr {k:Kind α} {k2:Kind β} {g:α→β→AV} {need:α→β→List Prop} (h:∀a b K,ax (need a b)→aB P f K [k.make a,k2.make b] [] (aK (g a b) [])):∀K args pre r,j4 k k2 g need K args pre=some r→aB P f K args pre r:=by
 refine bV fun K args r hk hs _=>?_
 split at hs
 ·split at hs
  ·rename_i h1 h2
   simp only[Option.some.injEq]at hs
   subst hs
   intro hn
   obtain⟨n1,hn⟩:=dG.1 hn
   obtain⟨n2,hn⟩:=dG.1 hn
   exact gb (h _ _ K hn) hk ⟨k.ok h1 n1,k2.ok h2 n2,trivial⟩ [] trivial
  ·simp at hs
 ·simp at hs
end specs
def p8 (a b:Rat×Nat):List Prop:=[a.2<2^42,b.2<2^42]
def vv (a b:Rat×Nat):List Prop:=[a.2<2^41,b.2<2^41]
def jq (a b:Rat×Nat):AV:=rA (a.1+b.1) (a.2+b.2+1)
def BY (a b:Rat×Nat):AV:=rA (a.1-b.1) (a.2+b.2+1)
def DE (a b:Rat×Nat):AV:=rA (a.1*b.1) (a.2+b.2)
def Hq (a b:Rat×Nat):AV:=.tuple [rA (a.1/b.1) (a.2+b.2),.int .i64 (if b.1=0 then 3 else 0)]
def YG (a b:Rat×Nat):AV:=rA (qG a.1 b.1) (max a.2 b.2)
def aki (a b:Rat×Nat):AV:=rA (rJ a.1 b.1) (max a.2 b.2)
def Dc (a b:Rat×Nat):AV:=.int .i64 (fe a.1 b.1)
def Cy (a b:Rat×Nat):AV:=.bool (decide (a.1=b.1))
def Dq (a:Rat×Nat):AV:=.int .i64 (eG a.1)
abbrev HR:FuncId×Spec:=(qx,L4)
def fI:aR:=[(wu,j4 kR kR jq p8),(xL,j4 kR kR BY p8),(z8,j4 kR kR DE p8),(fu,j4 kR kR Cy p8),(jB,j4 kR kR Dc p8),(qj,Iv kR Dq fun a=>[a.2<2^42]),HR]
def N4:aR:=[(qe,j4 kR kR jq vv),(yP,j4 kR kR BY vv),(yu,j4 kR kR DE vv),(y9,j4 kR kR Cy vv),(AD,j4 kR kR Dc vv),(qf,Iv kR Dq fun a=>[a.2<2^41]),(m9,v8)]
theorem ajo:∀K args pre r,HR.2 K args pre=some r→aB P HR.1 K args pre r:=XC
theorem ga:aY P fI:=aG (kr fun _ _ K hn=>ON hn.1 hn.2 K) (aG (kr fun _ _ K hn=>J5 hn.1 hn.2 K) (aG (kr fun _ _ K hn=>Lw hn.1 hn.2 K)
 (aG (kr fun _ _ K hn=>LM (Nat.lt_trans hn.1 (by omega)) (Nat.lt_trans hn.2 (by omega)) K []) (aG (kr fun _ _ K hn=>Gd hn.1 hn.2 K []) (aG (OW fun _ K hn=>F4 (Nat.lt_trans hn (by omega)) K []) (aG ajo bk))))))
theorem aha:aY P N4:=aG (kr fun _ _ K hn=>E1 hn.1 hn.2 K) (aG (kr fun _ _ K hn=>Jq hn.1 hn.2 K) (aG (kr fun _ _ K hn=>Qk hn.1 hn.2 K)
 (aG (kr fun _ _ K hn=>J6 (Nat.lt_trans hn.1 (by omega)) (Nat.lt_trans hn.2 (by omega)) K []) (aG (kr fun _ _ K hn=>NP hn.1 hn.2 K) (aG (OW fun _ K _=>Hf K []) (aG Dn bk))))))
end Go.Am.B

/- aR for numbers of known size: the numbers. -/
namespace Go.Am.B
open Go Go.Am.N AV
structure Kd (α:Type) where
 read:AV→Option α
 make:α→AV
 ok:∀{v:AV} {a:α},read v=some a→bB v (make a)
def Ih:AV→Option (V3×Nat)
 |.agg [x,y,z]=>match iS x,iS y,iS z with
  |some (x,a),some (y,b),some (z,c)=>some (⟨x,y,z⟩,max a (max b c))
  |_,_,_=>none
 |_=>none
theorem aaQ {v:AV} {a:V3×Nat} (h:Ih v=some a):bB v (vA a.1 a.2):=by
 unfold Ih at h
 split at h
 ·split at h
  ·rename_i h1 h2 h3
   simp only[Option.some.injEq]at h
   subst h
   exact dn ⟨(jv h1).trans (bS rfl (by simp only;omega)),(jv h2).trans (bS rfl (by simp only;omega)),(jv h3).trans (bS rfl (by simp only;omega)),trivial⟩
  ·simp at h
 ·simp at h
def dR:Kd (Rat×Nat):=⟨iS,fun a=>rA a.1 a.2,jv⟩
def dV:Kd (V3×Nat):=⟨Ih,fun a=>vA a.1 a.2,aaQ⟩
section specs
variable {α β γ δ:Type} {f:FuncId}
def En (k:Kd α) (g:α→AV) (B:α→Bool):Spec:=bC fun l=>match l with
 |[x]=>match k.read x with
  |some a=>match B a with
   |true=>some (aK (g a) [])
   |false=>none
  |_=>none
 |_=>none
theorem PX {k:Kd α} {g:α→AV} {B:α→Bool} (h:∀a K,B a=true→aB P f K [k.make a] [] (aK (g a) [])):∀K args pre r,En k g B K args pre=some r→aB P f K args pre r:=by
 refine bV fun K args r hk hs _=>?_
 split at hs
 ·split at hs
  ·rename_i h1
   split at hs
   ·rename_i hB
    simp only[Option.some.injEq]at hs
    subst hs
    exact gb (h _ K hB) hk ⟨k.ok h1,trivial⟩ []
   ·simp at hs
  ·simp at hs
 ·simp at hs
def jw (k:Kd α) (k2:Kd β) (g:α→β→AV) (B:α→β→Bool):Spec:=bC fun l=>match l with
 |[x,y]=>match k.read x,k2.read y with
  |some a,some b=>match B a b with
   |true=>some (aK (g a b) [])
   |false=>none
  |_,_=>none
 |_=>none
theorem j6 {k:Kd α} {k2:Kd β} {g:α→β→AV} {B:α→β→Bool} (h:∀a b K,B a b=true→aB P f K [k.make a,k2.make b] [] (aK (g a b) [])):∀K args pre r,jw k k2 g B K args pre=some r→aB P f K args pre r:=by
 refine bV fun K args r hk hs _=>?_
 split at hs
 ·split at hs
  ·rename_i h1 h2
   split at hs
   ·rename_i hB
    simp only[Option.some.injEq]at hs
    subst hs
    exact gb (h _ _ K hB) hk ⟨k.ok h1,k2.ok h2,trivial⟩ []
   ·simp at hs
  ·simp at hs
 ·simp at hs
end specs
def b1 {α:Type} (e:Nat) (a:α×Nat):Bool:=Nat.blt a.2 (2^e)
def b2 {α β:Type} (e:Nat) (a:α×Nat) (b:β×Nat):Bool:=Nat.blt a.2 (2^e)&&Nat.blt b.2 (2^e)
def b3 {α β γ:Type} (e:Nat) (a:α×Nat) (b:β×Nat) (c:γ×Nat):Bool:=Nat.blt a.2 (2^e)&&(Nat.blt b.2 (2^e)&&Nat.blt c.2 (2^e))
theorem JA {a b:Nat}:Nat.blt a b=true↔a<b:=by rw[Nat.blt_eq]
theorem aht {α:Type} {e:Nat} {a:α×Nat} (h:b1 e a=true):a.2<2^e:=JA.1 h
theorem fB {α β:Type} {e:Nat} {a:α×Nat} {b:β×Nat} (h:b2 e a b=true):a.2<2^e∧b.2<2^e:=by
 simp only[b2,Bool.and_eq_true,JA]at h;exact h
def Cw:Spec:=bC fun l=>match l with
 |[.int .i64 n]=>match decide (-2^63≤n∧n<2^63)with
  |true=>some (aK (.rat (n:Rat) (max 1 (br n.natAbs))) [])
  |false=>none
 |_=>none
abbrev Ed:FuncId×Spec:=(qx,Cw)
abbrev GL:FuncId×Spec:=(DD,jw dR dR YG (b2 42))
abbrev F1:FuncId×Spec:=(CY,jw dR dR aki (b2 42))
def tL:aR:=[(wu,jw dR dR jq (b2 42)),(xL,jw dR dR BY (b2 42)),(z8,jw dR dR DE (b2 42)),(fu,jw dR dR Cy (b2 42)),(jB,jw dR dR Dc (b2 42)),(qj,En dR Dq (b1 42)),Ed,(sn,jw dR dR Hq (b2 42)),GL,F1]
def rB:aR:=[(qe,jw dR dR jq (b2 41)),(yP,jw dR dR BY (b2 41)),(yu,jw dR dR DE (b2 41)),(y9,jw dR dR Cy (b2 41)),(AD,jw dR dR Dc (b2 41)),(qf,En dR Dq (b1 41)),(m9,Cw)]
theorem Gg {n:Nat} (h:n<2^42):n<2^44:=Nat.lt_trans h (by omega)
theorem NH {n:Nat} (h:n<2^41):n<2^44:=Nat.lt_trans h (by omega)
theorem Ea {f:FuncId} (h:∀{n:Int},-2^63≤n→n<2^63→∀K,aB P f K [.int .i64 n] [] (aK (.rat (n:Rat) (max 1 (br n.natAbs))) [])):∀K args pre r,Cw K args pre=some r→aB P f K args pre r:=by
 refine bV fun K args r hk hs _=>?_
 split at hs
 ·split at hs
  ·rename_i hc
   simp only[Option.some.injEq]at hs
   subst hs
   have:=of_decide_eq_true hc
   exact h this.1 this.2 K
  ·simp at hs
 ·simp at hs
theorem Yn:∀K args pre r,Ed.2 K args pre=some r→aB P Ed.1 K args pre r:=Ea EW
theorem WS:∀K args pre r,GL.2 K args pre=some r→aB P GL.1 K args pre r:=j6 fun _ _ K hn=>aaE (fB hn).1 (fB hn).2 K
theorem ae1:∀K args pre r,F1.2 K args pre=some r→aB P F1.1 K args pre r:=j6 fun _ _ K hn=>akW (fB hn).1 (fB hn).2 K
theorem vm:aY P tL:=aG (j6 fun _ _ K hn=>ON (fB hn).1 (fB hn).2 K) (aG (j6 fun _ _ K hn=>J5 (fB hn).1 (fB hn).2 K) (aG (j6 fun _ _ K hn=>Lw (fB hn).1 (fB hn).2 K)
 (aG (j6 fun _ _ K hn=>LM (Gg (fB hn).1) (Gg (fB hn).2) K []) (aG (j6 fun _ _ K hn=>Gd (fB hn).1 (fB hn).2 K []) (aG (PX fun _ K hn=>F4 (Gg (aht hn)) K []) (aG Yn
 (aG (j6 fun _ _ K hn=>Gv (fB hn).1 (fB hn).2 K) (aG WS (aG ae1 bk)))))))))
theorem r5:aY P rB:=aG (j6 fun _ _ K hn=>E1 (fB hn).1 (fB hn).2 K) (aG (j6 fun _ _ K hn=>Jq (fB hn).1 (fB hn).2 K) (aG (j6 fun _ _ K hn=>Qk (fB hn).1 (fB hn).2 K)
 (aG (j6 fun _ _ K hn=>J6 (NH (fB hn).1) (NH (fB hn).2) K []) (aG (j6 fun _ _ K hn=>NP (fB hn).1 (fB hn).2 K) (aG (PX fun _ K _=>Hf K []) (aG (Ea P6) bk))))))
end Go.Am.B

/- ref02: Quo, Over. -/
namespace Go.Am.B
open Go Go.Am.N AV
end Go.Am.B

/- Plain laws of fF and B-spline functions: no program in sight. -/
namespace Go.Am.B
def cD (n:Nat) (f:Nat→Rat):Rat:=match n with
 |0=>0
 |n+1=>cD n f+f n
theorem Af {f g:Nat→Rat}:∀{n:Nat},(∀i,i<n→f i=g i)→cD n f=cD n g
 |0,_=>rfl
 |n+1,h=>by rw[cD,cD,Af fun i hi=>h i (by omega),h n (by omega)]
theorem Ec {f g:Nat→Rat}:∀{n:Nat},cD n (fun i=>f i+g i)=cD n f+cD n g
 |0=>by simp only[cD];grind
 |n+1=>by rw[cD,cD,cD,Ec];grind
theorem Gw {f:Nat→Rat}:∀{n:Nat},cD (n+1) f=f 0+cD n fun i=>f (i+1)
 |0=>by simp only[cD];grind
 |n+1=>by rw[cD,Gw,cD];grind
structure Kn (n p:Nat) (k:Nat→Rat):Prop where
 p1:1≤p
 len:2*p+2≤n
 sorted:∀i,i+1<n→k i≤k (i+1)
 first:∀i,i≤p→k i=k 0
 last:∀i,n≤i+p+1→i<n→k i=k (n-1)
 mult:∀i,1≤i→i+p+1<n→k i<k (i+p)
theorem eL {n:Nat} {k:Nat→Rat} (h:∀i,i+1<n→k i≤k (i+1)) {i:Nat}:∀{j:Nat},i≤j→j<n→k i≤k j
 |0,hij,_=>by
    have:i=0:=by omega
    subst this;exact Rat.le_refl
 |j+1,hij,hj=>by
  by_cases he:i=j+1
  ·subst he;exact Rat.le_refl
  ·exact Rat.le_trans (eL h (j:=j) (by omega) (by omega)) (h j hj)
theorem Kn.mono {n p:Nat} {k:Nat→Rat} (h:Kn n p k) {i j:Nat} (hij:i≤j) (hj:j<n):k i≤k j:=eL h.sorted hij hj
def fr (a b t:Rat):Rat:=(t-a)/(b-a)
theorem mU {a b t:Rat} (h:a<b):fr a b t*(b-a)=t-a:=by
 unfold fr;rw[Rat.div_mul_cancel];intro e;grind
theorem adX {a b:Rat}:fr a b a=0:=by
 unfold fr;rw[Rat.sub_self,Rat.div_def,Rat.zero_mul]
theorem ZN {a b:Rat} (h:a<b):fr a b b=1:=by
 unfold fr;rw[Rat.div_def,Rat.mul_inv_cancel];intro e;grind
theorem HA {a b t:Rat} (h:a<b) (h0:a≤t):0≤fr a b t:=by
 have e:=mU (t:=t) h
 rcases Rat.le_total (a:=0) (b:=fr a b t)with h1|h1
 ·exact h1
 ·by_cases h2:fr a b t=0
  ·rw[h2];exact Rat.le_refl
  ·have:=Rat.mul_pos (a:=-fr a b t) (b:=b-a) (by grind) (by grind)
   grind
theorem Hu {a b t:Rat} (h:a<b) (h0:t≤b):fr a b t≤1:=by
 have e:=mU (t:=t) h
 rcases Rat.le_total (a:=fr a b t) (b:=1)with h1|h1
 ·exact h1
 ·by_cases h2:fr a b t=1
  ·rw[h2];exact Rat.le_refl
  ·have:=Rat.mul_pos (a:=fr a b t-1) (b:=b-a) (by grind) (by grind)
   grind
def vB (k:Nat→Rat) (i:Nat) (t:Rat):Nat→Nat→Rat
 |0,j=>if j=0 then 1 else 0
 |d+1,j=>(if j=0 then 0 else fr (k (i-d+(j-1))) (k (i-d+(j-1)+(d+1))) t*vB k i t d (j-1))+
   (if j≤d then(1-fr (k (i-d+j)) (k (i-d+j+(d+1))) t)*vB k i t d j else 0)
theorem vD {k:Nat→Rat} {i:Nat} {t:Rat}:∀{d j:Nat},d<j→vB k i t d j=0
 |0,j,h=>by unfold vB;rw[if_neg (by omega)]
 |d+1,j,h=>by
  unfold vB
  rw[if_neg (by omega),if_neg (by omega),vD (d:=d) (j:=j-1) (by omega)];grind
theorem Jv {k:Nat→Rat} {i:Nat} {t:Rat} {d j:Nat}:vB k i t (d+1) (j+1)=fr (k (i-d+j)) (k (i-d+j+(d+1))) t*vB k i t d j+(1-fr (k (i-d+(j+1))) (k (i-d+(j+1)+(d+1))) t)*vB k i t d (j+1):=by
 rw[vB,if_neg (by omega),Nat.add_sub_cancel]
 by_cases h:j+1≤d
 ·rw[if_pos h]
 ·rw[if_neg h,vD (d:=d) (j:=j+1) (by omega)];grind
theorem LB {k:Nat→Rat} {i:Nat} {t:Rat} {d:Nat}:vB k i t (d+1) 0=(1-fr (k (i-d)) (k (i-d+(d+1))) t)*vB k i t d 0:=by
 rw[vB,if_pos rfl,if_pos (by omega)];simp only[Nat.add_zero];grind
theorem Xv {k:Nat→Rat} {i:Nat} {t:Rat} {d:Nat} {c:Nat→Rat}:
  cD (d+2) (fun j=>c j*vB k i t (d+1) j)=
   cD (d+1) fun j=>(c (j+1)*fr (k (i-d+j)) (k (i-d+j+(d+1))) t+c j*(1-fr (k (i-d+j)) (k (i-d+j+(d+1))) t))*vB k i t d j:=by
 rw[Gw,LB]
 have h1:cD (d+1) (fun j=>c (j+1)*vB k i t (d+1) (j+1))=
   cD (d+1) (fun j=>c (j+1)*(fr (k (i-d+j)) (k (i-d+j+(d+1))) t*vB k i t d j))+cD (d+1) (fun j=>c (j+1)*((1-fr (k (i-d+(j+1))) (k (i-d+(j+1)+(d+1))) t)*vB k i t d (j+1))):=by
  rw[←Ec]
  refine Af fun j _=>?_
  rw[Jv];grind
 have h2:cD (d+2) (fun j=>c j*((1-fr (k (i-d+j)) (k (i-d+j+(d+1))) t)*vB k i t d j))=
   c 0*((1-fr (k (i-d)) (k (i-d+(d+1))) t)*vB k i t d 0)+cD (d+1) (fun j=>c (j+1)*((1-fr (k (i-d+(j+1))) (k (i-d+(j+1)+(d+1))) t)*vB k i t d (j+1))):=by
  rw[Gw];rfl
 have h3:cD (d+2) (fun j=>c j*((1-fr (k (i-d+j)) (k (i-d+j+(d+1))) t)*vB k i t d j))=
   cD (d+1) (fun j=>c j*((1-fr (k (i-d+j)) (k (i-d+j+(d+1))) t)*vB k i t d j)):=by
  rw[cD,vD (d:=d) (j:=d+1) (by omega)];grind
 have h4:cD (d+1) (fun j=>(c (j+1)*fr (k (i-d+j)) (k (i-d+j+(d+1))) t+c j*(1-fr (k (i-d+j)) (k (i-d+j+(d+1))) t))*vB k i t d j)=
   cD (d+1) (fun j=>c (j+1)*(fr (k (i-d+j)) (k (i-d+j+(d+1))) t*vB k i t d j))+cD (d+1) (fun j=>c j*((1-fr (k (i-d+j)) (k (i-d+j+(d+1))) t)*vB k i t d j)):=by
  rw[←Ec]
  exact Af fun j _=>by grind
 rw[h1,h4,←h3,h2];grind
theorem Pd {k:Nat→Rat} {i:Nat} {t:Rat}:∀{d:Nat},cD (d+1) (vB k i t d)=1
 |0=>by simp only[cD,vB,if_true];grind
 |d+1=>by
  have h:=Xv (k:=k) (i:=i) (t:=t) (d:=d) (c:=fun _=>1)
  have h1:cD (d+2) (vB k i t (d+1))=cD (d+2) (fun j=>1*vB k i t (d+1) j):=Af fun j _=>by grind
  have e:∀f x:Rat,(1*f+1*(1-f))*x=x:=fun f x=>by grind
  rw[h1,h]
  exact(Af fun j _=>e _ _).trans (Pd (k:=k) (i:=i) (t:=t) (d:=d))
structure At (n:Nat) (k:Nat→Rat) (i:Nat):Prop where
 lt:i+1<n
 sorted:∀i,i+1<n→k i≤k (i+1)
 wide:k i<k (i+1)
theorem At.around {n:Nat} {k:Nat→Rat} {i:Nat} (h:At n k i) {a b:Nat} (ha:a≤i) (hb:i<b) (hn:b<n):k a<k b:=by
 have h1:=eL h.sorted ha (show i<n by have:=h.lt;omega)
 have h2:=eL h.sorted (show i+1≤b by omega) hn
 have h3:=h.wide
 grind
theorem Ml {n:Nat} {k:Nat→Rat} {i:Nat} (h:At n k i) {t:Rat} (h0:k i≤t) (h1:t≤k (i+1)):∀{d:Nat},d≤i→i+d<n→∀j,0≤vB k i t d j
 |0,_,_,j=>by unfold vB;split<;>decide
 |d+1,hd,hn,j=>by
  have ih:=Ml h h0 h1 (d:=d) (by omega) (by omega)
  have key:∀j,j≤d→0≤fr (k (i-d+j)) (k (i-d+j+(d+1))) t∧fr (k (i-d+j)) (k (i-d+j+(d+1))) t≤1:=fun j hj=>by
   have hlt:=h.around (a:=i-d+j) (b:=i-d+j+(d+1)) (by omega) (by omega) (by omega)
   have g1:=eL h.sorted (show i-d+j≤i by omega) (show i<n by omega)
   have g2:=eL h.sorted (show i+1≤i-d+j+(d+1) by omega) (by omega)
   exact⟨HA hlt (Rat.le_trans g1 h0),Hu hlt (Rat.le_trans h1 g2)⟩
  cases j with
  |zero=>
   rw[LB]
   have:=key 0 (by omega)
   simp only[Nat.add_zero]at this
   exact Rat.mul_nonneg (by grind) (ih 0)
  |succ j=>
   rw[Jv]
   have a1:0≤fr (k (i-d+j)) (k (i-d+j+(d+1))) t*vB k i t d j:=by
    by_cases hj:j≤d
    ·exact Rat.mul_nonneg (key j hj).1 (ih j)
    ·rw[vD (d:=d) (j:=j) (by omega),Rat.mul_zero];exact Rat.le_refl
   have a2:0≤(1-fr (k (i-d+(j+1))) (k (i-d+(j+1)+(d+1))) t)*vB k i t d (j+1):=by
    by_cases hj:j+1≤d
    ·have:=(key (j+1) hj).2
     exact Rat.mul_nonneg (by grind) (ih (j+1))
    ·rw[vD (d:=d) (j:=j+1) (by omega),Rat.mul_zero];exact Rat.le_refl
   grind
end Go.Am.B

/- Plain laws of polar forms: symmetric, Sj; of fF: the coefficient; of equal arguments: the spline. -/
namespace Go.Am.B
def gi (k:Nat→Rat) (b p r:Nat) (t:Rat) (x:Nat→Rat) (j:Nat):Rat:=
 if r<j then x (j-1)+fr (k (b+j)) (k (b+j+(p-r))) t*(x j-x (j-1))else x j
def bl (k:Nat→Rat) (b p:Nat):Nat→(Nat→Rat)→List Rat→Nat→Rat
 |_,x,[]=>x
 |r,x,t::l=>bl k b p (r+1) (gi k b p r t x) l
def bz (t:Nat→Rat):Nat→Nat→List Rat
 |_,0=>[]
 |a,l+1=>t a::bz t (a+1) l
def bR (k:Nat→Rat) (b p:Nat) (t:Nat→Rat) (x:Nat→Rat):Nat→Nat→Rat
 |0=>x
 |r+1=>gi k b p r (t r) (bR k b p t x r)
variable {k:Nat→Rat} {b p:Nat}
theorem PS {t x:Nat→Rat}:∀{l r:Nat},bl k b p r (bR k b p t x r) (bz t r l)=bR k b p t x (r+l)
 |0,r=>rfl
 |l+1,r=>by
  have:=PS (t:=t) (x:=x) (l:=l) (r:=r+1)
  rw[show r+(l+1)=r+1+l by omega,←this];rfl
theorem Hv {t x:Nat→Rat} {l:Nat}:bR k b p t x l=bl k b p 0 x (bz t 0 l):=by
 have:=PS (k:=k) (b:=b) (p:=p) (t:=t) (x:=x) (l:=l) (r:=0)
 rw[Nat.zero_add]at this
 exact this.symm
theorem G6:∀{l:List Rat} {r:Nat} {x y:Nat→Rat},r+l.length=p→(∀j,r≤j→j≤p→x j=y j)→bl k b p r x l p=bl k b p r y l p
 |[],r,x,y,hl,h=>h p (by simp at hl;omega) (Nat.le_refl _)
 |t::l,r,x,y,hl,h=>by
  refine G6 (l:=l) (r:=r+1) (by simp at hl;omega) fun j h1 h2=>?_
  unfold gi
  rw[if_pos (by omega),if_pos (by omega),h j (by omega) h2,h (j-1) (by omega) (by omega)]
theorem I6 {x y u v:Rat} (hu:u≠0) (hv:v≠0) (h:x*(u*v)=y*(u*v)):x=y:=by
 have:(x-y)*(u*v)=0:=by grind
 simp only[Rat.mul_eq_zero]at this
 rcases this with h1|h1|h1
 ·grind
 ·exact absurd h1 hu
 ·exact absurd h1 hv
theorem afj {a1 a2 b1 b2 s t x0 x1 x2:Rat} (h1:a1<b1) (h2:a2<b1) (h3:a2<b2):
  x0+fr a1 b1 s*(x1-x0)+fr a2 b1 t*(x1+fr a2 b2 s*(x2-x1)-(x0+fr a1 b1 s*(x1-x0)))=
   x0+fr a1 b1 t*(x1-x0)+fr a2 b1 s*(x1+fr a2 b2 t*(x2-x1)-(x0+fr a1 b1 t*(x1-x0))):=by
 have n1:b1-a1≠0:=by intro e;grind
 have n2:b1-a2≠0:=by intro e;grind
 have n3:b2-a2≠0:=by intro e;grind
 have e1:=mU (t:=s) h1
 have e2:=mU (t:=t) h1
 have e3:=mU (t:=s) h2
 have e4:=mU (t:=t) h2
 have e5:=mU (t:=s) h3
 have e6:=mU (t:=t) h3
 generalize fr a1 b1 s=f1s at*
 generalize fr a1 b1 t=f1t at*
 generalize fr a2 b1 s=gs at*
 generalize fr a2 b1 t=gt at*
 generalize fr a2 b2 s=f2s at*
 generalize fr a2 b2 t=f2t at*
 have c0:(1-gt)*(1-f1s)=(1-gs)*(1-f1t):=by
  refine I6 n2 n1 ?_
  have q1:(1-gt)*(b1-a2)=b1-t:=by grind
  have q2:(1-f1s)*(b1-a1)=b1-s:=by grind
  have q3:(1-gs)*(b1-a2)=b1-s:=by grind
  have q4:(1-f1t)*(b1-a1)=b1-t:=by grind
  have l1:(1-gt)*(1-f1s)*((b1-a2)*(b1-a1))=((1-gt)*(b1-a2))*((1-f1s)*(b1-a1)):=by grind
  have l2:(1-gs)*(1-f1t)*((b1-a2)*(b1-a1))=((1-gs)*(b1-a2))*((1-f1t)*(b1-a1)):=by grind
  rw[l1,l2,q1,q2,q3,q4];grind
 have c2:gt*f2s=gs*f2t:=by
  refine I6 n2 n3 ?_
  have l1:gt*f2s*((b1-a2)*(b2-a2))=(gt*(b1-a2))*(f2s*(b2-a2)):=by grind
  have l2:gs*f2t*((b1-a2)*(b2-a2))=(gs*(b1-a2))*(f2t*(b2-a2)):=by grind
  rw[l1,l2,e3,e4,e5,e6];grind
 have f1:x0+f1s*(x1-x0)+gt*(x1+f2s*(x2-x1)-(x0+f1s*(x1-x0)))=((1-gt)*(1-f1s))*x0+(1-(1-gt)*(1-f1s)-gt*f2s)*x1+(gt*f2s)*x2:=by grind
 have f2:x0+f1t*(x1-x0)+gs*(x1+f2t*(x2-x1)-(x0+f1t*(x1-x0)))=((1-gs)*(1-f1t))*x0+(1-(1-gs)*(1-f1t)-gs*f2t)*x1+(gs*f2t)*x2:=by grind
 rw[f1,f2,c0,c2]
variable {n:Nat}
theorem We (h:At n k (b+p)) (hn:b+p+p<n) {s t:Rat} {x:Nat→Rat} {r j:Nat} (h1:r+2≤j) (h2:j≤p):
  gi k b p (r+1) t (gi k b p r s x) j=gi k b p (r+1) s (gi k b p r t x) j:=by
 have a1:=h.around (a:=b+(j-1)) (b:=b+(j-1)+(p-r)) (by omega) (by omega) (by omega)
 have a2:=h.around (a:=b+j) (b:=b+j+(p-(r+1))) (by omega) (by omega) (by omega)
 have a3:=h.around (a:=b+j) (b:=b+j+(p-r)) (by omega) (by omega) (by omega)
 have e:b+j+(p-(r+1))=b+(j-1)+(p-r):=by omega
 rw[e]at a2
 simp only[gi]
 rw[if_pos (by omega),if_pos (by omega),if_pos (by omega),if_pos (by omega),if_pos (by omega),if_pos (by omega),e]
 exact afj a1 a2 a3
theorem pI (h:At n k (b+p)) (hn:b+p+p<n) {l m:List Rat} (hp:l.Perm m):∀{r:Nat} {x:Nat→Rat},r+l.length=p→bl k b p r x l p=bl k b p r x m p:=by
 induction hp with
 |nil=>intro r x _;rfl
 |cons t _ ih=>intro r x hl;exact ih (by simp at hl;omega)
 |swap s t l=>
  intro r x hl
  refine G6 (l:=l) (r:=r+2) (by simp at hl;omega) fun j h1 h2=>?_
  exact We h hn h1 h2
 |trans h1 h2 ih1 ih2=>intro r x hl;rw[ih1 hl,ih2 (by rw[←h1.length_eq];exact hl)]
def jR (t:Nat→Rat) (a:Nat):Nat→List Rat
 |0=>[]
 |l+1=>t (a+l)::jR t a l
theorem tU {t:Nat→Rat}:∀{l a:Nat},bz t a (l+1)=bz t a l++[t (a+l)]
 |0,a=>rfl
 |l+1,a=>by
  rw[bz,tU (l:=l) (a:=a+1),bz,List.cons_append,show a+1+l=a+(l+1) by omega]
theorem vi {t:Nat→Rat} {a:Nat}:∀{l:Nat},(jR t a l).Perm (bz t a l)
 |0=>.nil
 |l+1=>by
  rw[tU,jR]
  exact((vi (l:=l)).cons _).trans (List.perm_append_singleton _ _).symm
theorem DW {t:Nat→Rat} {m:Nat}:∀{l a:Nat},bz t a (l+m)=bz t a l++bz t (a+l) m
 |0,a=>by rw[Nat.zero_add];rfl
 |l+1,a=>by
  rw[show l+1+m=(l+m)+1 by omega,bz,DW (l:=l) (a:=a+1),bz,List.cons_append,show a+1+l=a+(l+1) by omega]
theorem jG {t:Nat→Rat}:∀{l a:Nat},(bz t a l).length=l
 |0,_=>rfl
 |l+1,a=>by rw[bz,List.length_cons,jG]
theorem RR {l m:List Rat}:∀{r:Nat} {x:Nat→Rat},bl k b p r x (l++m)=bl k b p (r+l.length) (bl k b p r x l) m:=by
 induction l with
 |nil=>intro r x;rfl
 |cons t l ih=>
  intro r x
  rw[List.cons_append,bl,ih,bl,List.length_cons,show r+1+l.length=r+(l.length+1) by omega]
theorem QS (h:At n k (b+p)) (hn:b+p+p<n) {J:Nat} (hJ:J≤p):∀{l r:Nat} {x:Nat→Rat},r+l=J→bl k b p r x (jR k (b+p+1) l) J=x J
 |0,r,x,_=>rfl
 |l+1,r,x,hr=>by
  rw[jR,bl,QS h hn hJ (l:=l) (r:=r+1) (by omega)]
  unfold gi
  have a1:=h.around (a:=b+J) (b:=b+J+(p-r)) (by omega) (by omega) (by omega)
  rw[if_pos (by omega),show b+p+1+l=b+J+(p-r) by omega,ZN a1];grind
theorem MY {J:Nat}:∀{l q:Nat} {x:Nat→Rat},bl k b p (J+q) x (bz k (b+J+1+q) l) (J+q+l)=x (J+q)
 |0,q,x=>rfl
 |l+1,q,x=>by
  have ih:=MY (J:=J) (l:=l) (q:=q+1) (x:=gi k b p (J+q) (k (b+J+1+q)) x)
  rw[bz,bl,show J+q+(l+1)=J+(q+1)+l by omega,show J+q+1=J+(q+1) by omega,show b+J+1+q+1=b+J+1+(q+1) by omega,ih]
  unfold gi
  rw[if_pos (by omega),show b+J+1+q=b+(J+(q+1)) by omega,adX,show J+(q+1)-1=J+q by omega];grind
theorem ac7 (h:At n k (b+p)) (hn:b+p+p<n) {J:Nat} (hJ:J≤p) {x:Nat→Rat}:bl k b p 0 x (bz k (b+J+1) p) p=x J:=by
 have e:bz k (b+J+1) p=bz k (b+J+1) (p-J)++bz k (b+p+1) J:=by
  have:=DW (t:=k) (l:=p-J) (a:=b+J+1) (m:=J)
  rw[show p-J+J=p by omega,show b+J+1+(p-J)=b+p+1 by omega]at this
  exact this
 have hp:(bz k (b+J+1) p).Perm (jR k (b+p+1) J++bz k (b+J+1) (p-J)):=by
  rw[e]
  exact(List.perm_append_comm).trans ((vi).symm.append_right _)
 rw[pI h hn hp (by rw[jG];omega),RR]
 have hd:(jR k (b+p+1) J).length=J:=by rw[(vi).length_eq,jG]
 rw[hd,Nat.zero_add]
 have:=MY (k:=k) (b:=b) (p:=p) (J:=J) (l:=p-J) (q:=0) (x:=bl k b p 0 x (jR k (b+p+1) J))
 simp only[Nat.add_zero]at this
 rw[show J+(p-J)=p by omega]at this
 rw[this]
 exact QS h hn hJ (l:=J) (r:=0) (by omega)
end Go.Am.B

/- Plain laws of fF: the interval of a parameter; what a list of fF is made of. -/
namespace Go.Am.B
def kQ (g:Nat→Bool):Nat→Nat
 |0=>0
 |m+1=>if g m then m else kQ g m
theorem J1 {g:Nat→Bool} {i:Nat} (hi:g i=true):∀{m:Nat},i<m→(∀j,i<j→j<m→g j=false)→kQ g m=i
 |0,h,_=>by omega
 |m+1,h,hn=>by
  unfold kQ
  by_cases he:i=m
  ·subst he;rw[if_pos hi]
  ·rw[if_neg (by rw[hn m (by omega) (by omega)];decide),J1 hi (m:=m) (by omega) fun j h1 h2=>hn j h1 (by omega)]
def bP (n:Nat) (k:Nat→Rat) (t:Rat):Nat:=kQ (fun i=>decide (k i<k (i+1))&&decide (k i≤t)) (n-1)
structure Iw (n:Nat) (k:Nat→Rat) (t:Rat) (i:Nat):Prop where
 at_:At n k i
 lo:k i≤t
 hi:t≤k (i+1)
 LU:t<k (i+1)∨k (i+1)=k (n-1)
theorem Ir {n:Nat} {k:Nat→Rat} {t:Rat} {i:Nat} (h:Iw n k t i):bP n k t=i:=by
 have hw:=h.at_.wide
 have hlo:=h.lo
 refine J1 (by simp[hw,hlo]) (by have:=h.at_.lt;omega) fun j h1 h2=>?_
 rcases h.LU with h3|h3
 ·have:=eL h.at_.sorted (show i+1≤j by omega) (show j<n by omega)
  have:¬k j≤t:=by grind
  simp[this]
 ·have a1:=eL h.at_.sorted (show i+1≤j by omega) (show j<n by omega)
  have a2:=eL h.at_.sorted (show j+1≤n-1 by omega) (show n-1<n by omega)
  have:¬k j<k (j+1):=by grind
  simp[this]
theorem Mc {g:Nat→Bool}:∀{m:Nat},(∃i,i<m∧g i=true)→g (kQ g m)=true∧kQ g m<m∧∀j,kQ g m<j→j<m→g j=false
 |0,⟨i,h,_⟩=>by omega
 |m+1,⟨i,h,hi⟩=>by
  unfold kQ
  by_cases hm:g m=true
  ·rw[if_pos hm];exact⟨hm,by omega,fun j h1 h2=>by omega⟩
  ·rw[if_neg hm]
   have hi':i<m:=by
    by_cases he:i=m
    ·subst he;exact absurd hi hm
    ·omega
   obtain⟨a1,a2,a3⟩:=Mc (g:=g) (m:=m) ⟨i,hi',hi⟩
   refine⟨a1,by omega,fun j h1 h2=>?_⟩
   by_cases he:j=m
   ·subst he;simpa using hm
   ·exact a3 j h1 (by omega)
theorem Kn.D4 {n p:Nat} {k:Nat→Rat} (h:Kn n p k) {t:Rat} (h0:k 0≤t) (h1:t≤k (n-1)):Iw n k t (bP n k t)∧p≤bP n k t∧bP n k t+p+1<n:=by
 have hp:=h.p1
 have hl:=h.len
 have hw:k p<k (p+1):=by
  have:=h.mult 1 (by omega) (by omega)
  rw[h.first 1 (by omega),show 1+p=p+1 by omega]at this
  rw[h.first p (by omega)];exact this
 obtain⟨a1,a2,a3⟩:=Mc (g:=fun i=>decide (k i<k (i+1))&&decide (k i≤t)) (m:=n-1) ⟨p,by omega,by rw[h.first p (by omega)]at*;simp[hw,h0]⟩
 have e:bP n k t=kQ (fun i=>decide (k i<k (i+1))&&decide (k i≤t)) (n-1):=rfl
 rw[←e]at a1 a2 a3
 generalize bP n k t=i at*
 simp only[Bool.and_eq_true,decide_eq_true_eq]at a1
 have hat:At n k i:=⟨by omega,h.sorted,a1.1⟩
 -- from the next knot on
 have key:t<k (i+1)∨k (i+1)=k (n-1):=by
  by_cases ht:t<k (i+1)
  ·exact .inl ht
  ·refine .inr ?_
   have step:∀j,i+1≤j→j≤n-1→k j=k (i+1):=by
    intro j hj1 hj2
    induction j with
    |zero=>omega
    |succ j ih=>
     by_cases hji:j+1=i+1
     ·rw[hji]
     ·have e1:=ih (by omega) (by omega)
      have:=a3 j (by omega) (by omega)
      have hs:=h.sorted j (by omega)
      by_cases hlt:k j<k (j+1)
      ·simp[hlt]at this
       grind
      ·grind
   exact(step (n-1) (by omega) (by omega)).symm
 have hi2:t≤k (i+1):=by rcases key with h2|h2<;>grind
 refine⟨⟨hat,a1.2,hi2,key⟩,?_,?_⟩
 ·by_cases hge:p≤i
  ·exact hge
  ·exfalso
   have:=h.first i (by omega)
   have:=h.first (i+1) (by omega)
   have:=a1.1
   grind
 ·by_cases hge:i+p+1<n
  ·exact hge
  ·exfalso
   have:=h.last i (by omega) (by omega)
   have:=h.last (i+1) (by omega) (by omega)
   have:=a1.1
   grind
end Go.Am.B

/- Plain laws of fF: how a list of valid fF is made, one knot after another. -/
namespace Go.Am.B
structure KG (p j:Nat) (k:Nat→Rat) (t:Rat):Prop where
 p1:1≤p
 first:∀i,i≤p→k i=k 0
 top:k (p+j)=t
 sorted:∀i,i<p+j→k i≤k (i+1)
 mult:∀i,1≤i→i≤j→k i<k (i+p)
 half:∀i,i≤p+j→∃z:Int,k i=(z:Rat)/2∧-4≤z∧z≤2+6*(j:Int)
def kz (k:Nat→Rat) (m:Nat) (t:Rat):Nat→Rat:=fun i=>if i=m then t else k i
theorem ue {k:Nat→Rat} {m:Nat} {t:Rat}:kz k m t m=t:=if_pos rfl
theorem lV {k:Nat→Rat} {m i:Nat} {t:Rat} (h:i≠m):kz k m t i=k i:=if_neg h
theorem KG.start {p:Nat} (hp:1≤p) {z:Int} (h1:-2≤z) (h2:z≤1):KG p 0 (fun _=>(z:Rat)) (z:Rat) where
 p1:=hp
 first:=fun _ _=>rfl
 top:=rfl
 sorted:=fun _ _=>Rat.le_refl
 mult:=fun i h1 h2=>by omega
 half:=fun i _=>⟨2*z,by
  have:((2*z:Int):Rat)=2*(z:Rat):=by simp
  rw[this];grind,by omega,by omega⟩
theorem KG.le_top {p j:Nat} {k:Nat→Rat} {t:Rat} (h:KG p j k t) {i:Nat} (hi:i≤p+j):k i≤t:=by
 rw[←h.top]
 exact eL (n:=p+j+1) (fun i hi=>h.sorted i (by omega)) hi (by omega)
theorem KG.next {p j:Nat} {k:Nat→Rat} {t t':Rat} (h:KG p j k t) (hc:(t<t'∧∃z:Int,t'=t+(z:Rat)/2∧z≤6)∨(t'=t∧1≤j∧t≠k (j+1))):KG p (j+1) (kz k (p+1+j) t') t':=by
 have hle:t≤t':=by
  rcases hc with⟨h1,_⟩|⟨h1,_⟩
  ·grind
  ·rw[h1];exact Rat.le_refl
 have hp:=h.p1
 refine⟨hp,fun i hi=>?_,?_,fun i hi=>?_,fun i h1 h2=>?_,fun i hi=>?_⟩
 ·rw[lV (by omega),lV (by omega)];exact h.first i hi
 ·rw[show p+(j+1)=p+1+j by omega,ue]
 ·by_cases he:i+1=p+1+j
  ·rw[he,ue,lV (by omega),show i=p+j by omega,h.top];exact hle
  ·rw[lV (by omega),lV he];exact h.sorted i (by omega)
 ·by_cases he:i=j+1
  ·subst he
   rw[show j+1+p=p+1+j by omega,ue,lV (by omega)]
   have:=h.le_top (i:=j+1) (by omega)
   rcases hc with⟨h3,_⟩|⟨h3,h4,h5⟩
   ·grind
   ·rw[h3];grind
  ·rw[lV (by omega),lV (by omega)];exact h.mult i h1 (by omega)
 ·by_cases he:i=p+1+j
  ·subst he
   rw[ue]
   obtain⟨z,e1,e2,e3⟩:=h.half (p+j) (by omega)
   rw[h.top]at e1
   rcases hc with⟨h3,y,e4,e5⟩|⟨h3,_⟩
   ·refine⟨z+y,?_,?_,by omega⟩
    ·rw[e4,e1]
     have:((z+y:Int):Rat)=(z:Rat)+(y:Rat):=by simp
     rw[this];grind
    ·have hy:0<y:=by
      rcases Int.lt_or_le 0 y with h6|h6
      ·exact h6
      ·exfalso
       have:((y:Int):Rat)≤0:=Rat.intCast_nonpos.2 h6
       grind
     omega
   ·exact⟨z,by rw[h3,e1],e2,by omega⟩
  ·rw[lV he]
   obtain⟨z,e1,e2,e3⟩:=h.half i (by omega)
   exact⟨z,e1,e2,by omega⟩
def l6 (p j:Nat) (k:Nat→Rat) (t:Rat):Nat→Rat:=fun i=>if i<p+1+j then k i else t+1
theorem KG.done {p j:Nat} {k:Nat→Rat} {t:Rat} (h:KG p j k t):Kn (2*p+2+j) p (l6 p j k t):=by
 have hp:=h.p1
 have lo:∀{i},i<p+1+j→l6 p j k t i=k i:=fun hi=>if_pos hi
 have hi':∀{i},p+1+j≤i→l6 p j k t i=t+1:=fun hi=>if_neg (by omega)
 refine⟨hp,by omega,fun i hi=>?_,fun i hi=>?_,fun i h1 h2=>?_,fun i h1 h2=>?_⟩
 ·by_cases h1:i+1<p+1+j
  ·rw[lo h1,lo (by omega)];exact h.sorted i (by omega)
  ·rw[hi' (i:=i+1) (by omega)]
   by_cases h2:i<p+1+j
   ·rw[lo h2]
    have:=h.le_top (i:=i) (by omega)
    grind
   ·rw[hi' (by omega)];exact Rat.le_refl
 ·rw[lo (i:=i) (by omega),lo (i:=0) (by omega)];exact h.first i hi
 ·rw[hi' (i:=i) (by omega),hi' (i:=2*p+2+j-1) (by omega)]
 ·by_cases h3:i+p<p+1+j
  ·rw[lo (by omega),lo h3];exact h.mult i h1 (by omega)
  ·rw[hi' (i:=i+p) (by omega),lo (i:=i) (by omega)]
   have:=h.le_top (i:=i) (by omega)
   grind
theorem KG.aas {p j:Nat} {k:Nat→Rat} {t:Rat} (h:KG p j k t) (i:Nat):∃z:Int,l6 p j k t i=(z:Rat)/2∧-4≤z∧z≤4+6*(j:Int):=by
 unfold l6
 split
 ·rename_i hi
  obtain⟨z,e1,e2,e3⟩:=h.half i (by omega)
  exact⟨z,e1,e2,by omega⟩
 ·obtain⟨z,e1,e2,e3⟩:=h.half (p+j) (by omega)
  rw[h.top]at e1
  refine⟨z+2,?_,by omega,by omega⟩
  have:((z+2:Int):Rat)=(z:Rat)+2:=by simp
  rw[e1,this];grind
end Go.Am.B

/- Lists of numbers as arguments. -/
namespace Go.Am.B
open AV
def aS:AV→Rat
 |.rat q _=>q
 |_=>0
def bG (f:Nat→AV) (n s:Nat):Prop:=∀i,i<n→bB (f i) (.rat (aS (f i)) s)
abbrev bt (k:Nat→Rat) (n s:Nat):AV:=.ak 3 n (fun i=>.rat (k i) s)
theorem cM {k:Nat→Rat} {n s s':Nat} (h:s≤s'):bG (fun i=>.rat (k i) s) n s':=fun _ _=>fC h
theorem FL {f:Nat→AV} {n s:Nat} (h:bG f n s):bB (.ak 3 n f) (bt (fun i=>aS (f i)) n s):=mN h
def C3:AV→Option (Nat×(Nat→AV))
 |.ak 3 n f=>some (n,f)
 |.nil=>some (0,fun _=>.rat 0 1)
 |_=>none
theorem V5 {v:AV} {n s:Nat} {f:Nat→AV} (h:C3 v=some (n,f)) (ha:bG f n s):bB v (bt (fun i=>aS (f i)) n s):=by
 unfold C3 at h
 split at h
 ·simp only[Option.some.injEq,Prod.mk.injEq]at h
  obtain⟨rfl,rfl⟩:=h
  exact FL ha
 ·simp only[Option.some.injEq,Prod.mk.injEq]at h
  obtain⟨rfl,rfl⟩:=h
  exact kT (by omega)
 ·simp at h
end Go.Am.B

/- brepkernelmade: Rat, Within; lists of numbers as arguments. -/
namespace Go.Am.B
open Go Go.Am.N AV
theorem RS:aO P EC Br (au Br):=aQ WG (by kernel_rfl) (by kernel_rfl) (by kernel_rfl)
noncomputable def MR:aR:=[(EC,fT T (sG::(CG,M9)::rB) [] 60 Br)]
theorem Xk:aY P MR:=aG (gd hT (ij (aG TO r5)) hm RS _ _) bk
def kL (s:Nat):Kind (Nat×(Nat→Rat)):=⟨fun v=>match C3 v with
 |some (n,f)=>some ((n,fun i=>aS (f i)),[bG f n s])
 |none=>none,fun a=>bt a.2 a.1 s,fun {v a q} h hq=>by
  split at h
  ·rename_i h1
   simp only[Option.some.injEq,Prod.mk.injEq]at h
   obtain⟨rfl,rfl⟩:=h
   exact V5 h1 hq
  ·simp at h⟩
def kO (s:Nat):Kind Rat:=⟨fun v=>match iS v with
 |some (q,n)=>some (q,[n≤s])
 |none=>none,fun a=>.rat a s,fun {v a q} h hq=>by
  split at h
  ·rename_i h1
   simp only[Option.some.injEq,Prod.mk.injEq]at h
   obtain⟨rfl,rfl⟩:=h
   exact(jv h1).trans (fC hq)
  ·simp at h⟩
structure qJ (α:Type) where
 read:List AV→Option (α×List Prop)
 make:α→List AV
 ok:∀{l:List AV} {a:α} {q:List Prop},read l=some (a,q)→ax q→eJ l (make a)
def kN:qJ Unit:=⟨fun l=>match l with
 |[]=>some ((),[])
 |_=>none,fun _=>[],fun {l a q} h _=>by
  split at h
  ·trivial
  ·simp at h⟩
def kC {α β:Type} (k:Kind α) (kl:qJ β):qJ (α×β):=⟨fun l=>match l with
 |v::l=>match k.read v,kl.read l with
  |some (a,p),some (b,q)=>some ((a,b),p++q)
  |_,_=>none
 |[]=>none,fun a=>k.make a.1::kl.make a.2,fun {l a q} h hq=>by
  split at h
  ·split at h
   ·rename_i h1 h2
    simp only[Option.some.injEq,Prod.mk.injEq]at h
    obtain⟨rfl,rfl⟩:=h
    obtain⟨q1,q2⟩:=dG.1 hq
    exact⟨k.ok h1 q1,kl.ok h2 q2⟩
   ·simp at h
  ·simp at h⟩
def cQ {α:Type} (k:qJ α) (g:α→AV) (need:α→List Prop):Spec:=bC fun l=>match k.read l with
 |some (a,p)=>some (aK (g a) (p++need a))
 |none=>none
theorem cU {α:Type} {f:FuncId} {k:qJ α} {g:α→AV} {need:α→List Prop} (h:∀a K,ax (need a)→aB P f K (k.make a) [] (aK (g a) [])):∀K args pre r,cQ k g need K args pre=some r→aB P f K args pre r:=by
 refine bV fun K args r hk hs _=>?_
 split at hs
 ·rename_i h1
  simp only[Option.some.injEq]at hs
  subst hs
  intro hn
  obtain⟨n1,hn⟩:=dG.1 hn
  exact gb (h _ K hn) hk (k.ok h1 n1) [] trivial
 ·simp at hs
end Go.Am.B

/- fF.Interval, ref08.Interval; numbers of we. -/
namespace Go.Am.B
open Go Go.Am.N AV aa aj IntKind
theorem ajK:aO P qQ yc (au yc):=aQ ag8 (by kernel_rfl) (by kernel_rfl) (by kernel_rfl)
def fQ:aR:=nG::tL
abbrev sK:Nat:=4096
abbrev ls (k:Nat→Rat) (n:Nat):AV:=bt k n sK
abbrev tP (t:Rat) (s:Nat):ah:=⟨false,true,3,1,fun _=>.rat t s⟩
abbrev yU:List Nat:=[0,5,8,9,6,7]
abbrev Gq (n:Nat) (k:Nat→Rat) (l i:Nat):List AV:=[ls k n,.ptr 0 0 3 0 [],.int .i64 l,.int .i64 i,.int .i64 0,.int .i64 0]
noncomputable abbrev xe:Code:=au yc
theorem SI {n:Nat} {k:Nat→Rat} {p:Int} {t:Rat}:aH T fQ [200013,21,31] 60 yU (before xe [1,1,1,0,1]) ⟨aN 0 [ls k n,.int .i64 p,.rat t sK],[],0⟩=
  let c11:Prop:=((↑n:Int)==(0:Int))=false;let c10:Prop:=0<1;let c9:AV:=ak 3 n fun i↦rat (k i) 4096;let c8:Nat:=Int.toNat (0:Int);let c7:AV:=ptr 0 0 (bn (rat t sK)).size 0 [];let c6:AV:=int i64 (0:Int);let c5:Nat×ah:=((0:Nat),ah.mk false true (bn (rat t sK)).size 1 fun x↦rat t 4096);let c4:Int:=(↑n:Int)-(1:Int);let c12:Prop:=(0:Int)≤(0:Int)∧c8<n;let c3:Bool:=bif false then true else decide (fe t (k c8)<(0:Int));let c2:aa (List AV×aC):=leaf ret ([c9,c7,tuple [],tuple [],c6,int i64 (7:Int)],[c5]);let c1:aa (List AV×aC):=leaf normal ([c9,c7,c6,c6,c6,c6],[c5]);some (fork c3 (ag [c11,c10,c12,c3=true] (fork true c2 c1)) (ag [c11,c10,c12,c3=false,c10,-(2:Int)^63≤c4∧c4<(2:Int)^63,(0:Int)≤c4∧c4.toNat<n] (fork (bif false then true else decide (fe t (k c4.toNat)>(0:Int))) c2 c1))):=by kernel_rfl
theorem afB {n l i:Nat} {k:Nat→Rat} {t:Rat}:aH T fQ [36,49,58] 60 yU [part xe [1,1,1,0,1,0,0]] ⟨aA yU (Gq n k l i),[(0,tP t sK)],1⟩=
  let c7:Int:=(↑i:Int);let c6:List AV:=[int i64 (0:Int),int i64 (0:Int)];let c5:AV:=ptr 0 0 3 0 [];let c4:AV:=ak 3 n fun i↦rat (k i) 4096;let c2:Nat×ah:=((0:Nat),ah.mk false true 3 1 fun x↦rat t 4096);let c10:AV:=int i64 c7;let c1:Int:=c7+(1:Int);let c8:Int:=fe (k c7.toNat) (k c1.toNat);let c3:Prop:=-(2:Int)^63≤c1∧c1<(2:Int)^63;let c9:List Prop:=[c3,(0:Int)≤c1∧c1.toNat<n];some (ag [c3] (fork (decide (c1<(↑n:Int))) (ag (((0:Int)≤c7∧c7.toNat<n)::c9) (fork (decide (c8≥(0:Int))) (ag [c3] (leaf normal (c4::c5::int i64 (↑l:Int)::int i64 c1::c6,[c2]))) (ag (((0:Nat)<1)::c9) (fork (decide (fe t (k c1.toNat)<(0:Int))) (leaf (exit 0) (c4::c5::c10::c10::c6,[c2])) (ag [c3] (leaf normal (c4::c5::c10::int i64 c1::c6,[c2]))))))) (leaf (exit 0) (c4::c5::int i64 (↑l:Int)::c10::c6,[c2])))):=by kernel_rfl
theorem WR {n l i:Nat} {k:Nat→Rat} {t:Rat}:cm T fQ [] 60 yc [part xe [1,1,1,1]] ⟨aA yU (Gq n k l i),[(0,tP t sK)],1⟩=
  some (leaf ret [int i64 (↑l:Int),int i64 (0:Int)]):=by kernel_rfl
abbrev Qi (n:Nat) (k:Nat→Rat) (i:Nat):List AV:=[ls k n,.ptr 0 0 3 0 [],.int .i64 i,.int .i64 0,.int .i64 0]
theorem j5:aY P fQ:=dr vm
theorem vR {q:Rat} {n:Nat}:aS (.rat q n)=q:=rfl
theorem Xb:max 1 (br (Int.natAbs 1))=1:=by decide
theorem IG {a b:Rat}:fe a b≥(0:Int)↔b≤a:=by
 have:=@oZ a b
 constructor
 ·intro h
  have:¬a<b:=fun h'=>by have:=oZ.2 h';omega
  grind
 ·intro h
  have:¬fe a b<0:=fun h'=>by have:=oZ.1 h';grind
  omega
theorem tc {rl:List (Nat×Nat)} {l i s s' s2:Nat} {x y:Nat→Rat} {t:Rat} (hx:∀i,i<l→x i=y i) (ht:t=y l) (h1:s≤s2) (h2:s'≤s2) (hi:i<l+1):fD rl (if i<l then .rat (x i) s else nth [.rat t s'] (.rat 0 1) (i-l+0)) (.rat (y i) s2):=by
 by_cases h:i<l
 ·rw[if_pos h,hx i h];exact .inr ⟨rfl,bS rfl h1⟩
 ·have:i=l:=by omega
  subst this
  rw[if_neg h,Nat.sub_self,ht]
  exact .inr ⟨rfl,bS rfl h2⟩
def ek (n:Nat) (k:Nat→Rat) (t:Rat):Prop:=t<k 0∨k (n-1)<t
instance {n:Nat} {k:Nat→Rat} {t:Rat}:Decidable (ek n k t):=inferInstanceAs (Decidable (t<k 0∨k (n-1)<t))
def fW (n:Nat) (k:Nat→Rat) (t:Rat):Nat:=if ek n k t then 0 else bP n k t
def eE (n:Nat) (k:Nat→Rat) (t:Rat):Int:=if ek n k t then 7 else 0
abbrev yV (n:Nat) (k:Nat→Rat) (t:Rat):AV:=.tuple [.int .i64 (fW n k t),.int .i64 (eE n k t)]
theorem IT {n:Nat} {k:Nat→Rat} {t:Rat} (h:ek n k t):dX [.int .i64 0,.int .i64 7] (yV n k t):=
 ⟨bw (by unfold fW;rw[if_pos h];rfl),bw (by unfold eE;rw[if_pos h]),trivial⟩
theorem adC {n i:Nat} {k:Nat→Rat} {t:Rat} (h:¬ek n k t) (hi:i=bP n k t):dX [.int .i64 i,.int .i64 0] (yV n k t):=
 ⟨bw (by unfold fW;rw[if_neg h,hi]),bw (by unfold eE;rw[if_neg h]),trivial⟩
abbrev vk (k:Nat→Rat) (t:Rat) (i:Nat):Nat:=kQ (fun i=>decide (k i<k (i+1))&&decide (k i≤t)) i
theorem Nm {g:Nat→Bool} {m:Nat}:kQ g (m+1)=if g m then m else kQ g m:=rfl
theorem ajC {n p0:Nat} {k:Nat→Rat} {p:Int} {t:Rat} (h:Kn n p0 k) (hn:n<2^40) (K:Nat):aB P qQ K [ls k n,.int .i64 p,.rat t sK] [] (aK (yV n k t) []):=by
 have hp:=h.p1
 have hl:=h.len
 refine gO (r:=aK (yV n k t) []) hT j5 hm ajK rfl (of_decide_eq_true (by kernel_rfl)) rfl [1,1,1,0,1] (i:=0) (y:=part xe [1,1,1,0,1,0,0]) (z:=part xe [1,1,1,1]) (by kernel_rfl) (by kernel_rfl) (by kernel_rfl) (f1:=[200013,21,31]) (f2:=[36,49,58]) (f3:=[]) 60 yU 1
  (fun a:Nat×Nat=>Gq n k a.2 a.1) (fun _=>[(0,tP t sK)]) (fun a=>a.1+1≤n∧a.2=vk k t a.1∧k a.1≤t∧¬ek n k t) (fun a=>a.2=bP n k t∧¬ek n k t) (fun a=>n-a.1) (fun _=>⟨⟨_,SI,?_⟩,fun⟨i,l⟩ ⟨h1,h2,h3,h4⟩=>⟨_,afB,?_⟩,fun⟨i,l⟩ ⟨h1,h2⟩=>⟨_,WR,adC h2 h1⟩⟩) K []
 ·simp only[aa.all,ax,decide_eq_true_eq,decide_eq_false_iff_not,oZ,zF,cond_false,Int.toNat_zero,beq_eq_false_iff_ne,ne_eq,show((n:Int)-1).toNat=n-1 by omega]
  (repeat' with_reducible first|refine And.intro ?_ ?_|intro _)
  all_goals first|omega|assumption|skip
  ·exact⟨_,by kernel_rfl,IT (.inl ‹_›)⟩
  ·exact absurd ‹true=false› (by decide)
  ·exact⟨_,by kernel_rfl,IT (.inr ‹_›)⟩
  ·rename_i a b
   have hin:¬ek n k t:=fun h=>h.elim (fun h=>a h) fun h=>b h
   exact⟨(0,0),⟨by omega,rfl,by show k 0≤t;grind,hin⟩,[(0,0)],rfl,rfl,rfl,aJ rfl rfl (aE rfl rfl) trivial⟩
 ·have hs:∀i,i+1<n→k i≤k (i+1):=h.sorted
  simp only at h1 h2 h3
  simp only[aa.all,ax,decide_eq_true_eq,decide_eq_false_iff_not,oZ,IG,Int.toNat_natCast,show((i:Int)+1).toNat=i+1 by omega]
  (repeat' with_reducible first|refine And.intro ?_ ?_|intro _)
  all_goals first|omega|assumption|skip
  ·rename_i hi hge
   have:=hs i (by omega)
   have e:vk k t (i+1)=vk k t i:=by
    have:¬k i<k (i+1):=by grind
    rw[vk,Nm,if_neg (by simp[this])]
   exact⟨(i+1,l),⟨by omega,h2.trans e.symm,by show k (i+1)≤t;grind,h4⟩,by dsimp only;omega,[(0,0)],rfl,rfl,rfl,aJ rfl rfl (aE rfl rfl) trivial⟩
  ·rename_i hi hlt hb
   have:k i<k (i+1):=by grind
   have hiv:bP n k t=i:=Ir ⟨⟨by omega,hs,this⟩,h3,by grind,.inl hb⟩
   exact⟨rfl,(i,i),⟨hiv.symm,h4⟩,[(0,0)],rfl,rfl,rfl,aJ rfl rfl (aE rfl rfl) trivial⟩
  ·rename_i hi hlt hb
   have:k i<k (i+1):=by grind
   have e:vk k t (i+1)=i:=by
    rw[vk,Nm,if_pos (by simp[this,h3])]
   exact⟨(i+1,i),⟨by omega,e.symm,by show k (i+1)≤t;grind,h4⟩,by dsimp only;omega,[(0,0)],rfl,rfl,rfl,aJ rfl rfl (aE rfl rfl) trivial⟩
  ·have hin:i=n-1:=by omega
   subst hin
   exact⟨rfl,(n-1,l),⟨h2,h4⟩,[(0,0)],rfl,rfl,rfl,aJ rfl rfl (aE rfl rfl) trivial⟩
abbrev Qo:qJ ((Nat×(Nat→Rat))×Int×Rat×Unit):=kC (kL sK) (kC kI (kC (kO sK) kN))
def B8:Spec:=cQ Qo (fun a=>yV a.1.1 a.1.2 a.2.2.1) fun a=>[Kn a.1.1 a.2.1.toNat a.1.2,0≤a.2.1,a.1.1<2^40]
theorem EM:∀K args pre r,B8 K args pre=some r→aB P qQ K args pre r:=cU fun _ K hn=>ajC hn.1 hn.2.2 K
end Go.Am.B

/- basis.fraction, basis.Values. -/
namespace Go.Am.B
open Go Go.Am.N AV aa aj IntKind
theorem ajp:aO P z6 xY (au xY):=aQ S1 (by kernel_rfl) (by kernel_rfl) (by kernel_rfl)
theorem Pu:aO P zh uO (au uO):=aQ Z6 (by kernel_rfl) (by kernel_rfl) (by kernel_rfl)
def Jr:aR:=(sn,j4 kR kR Hq p8)::fI
theorem VX {a b t:Rat} {n:Nat}:bF T Jr [] 60 xY (au xY) ⟨aN 0 [.rat a n,.rat b n,.rat t n],[],0⟩=
  let c3:Nat:=n+n+1;let c2:Nat:=2^42;let c1:Prop:=0<1;some (ag [c1,c1,n<c2,n<c2,c1,c1,n<c2,n<c2,c3<c2,c3<c2,c1] (ag [c1,c1] (ag [c1] (leaf ret [rat ((t-a)/(b-a)) (c3+c3)])))):=by kernel_rfl
abbrev sF:Nat:=16386
def EB:Spec:=cQ (kC (kO sK) (kC (kO sK) (kC (kO sK) kN))) (fun a=>.rat (fr a.1 a.2.1 a.2.2.1) sF) fun _=>[]
theorem U2:aY P Jr:=aG (kr fun _ _ K hn=>Gv hn.1 hn.2 K) ga
theorem Nd:∀K args pre r,EB K args pre=some r→aB P z6 K args pre r:=cU fun⟨a,b,t,_⟩ K _=>by
 refine bJ (r:=aK (.rat (fr a b t) sF) []) hT U2 hm ajp rfl (of_decide_eq_true (by kernel_rfl)) rfl 60 VX (fun _=>?_) K []
 simp only[aa.all,ax]
 have h1:sK=4096:=rfl
 (repeat' with_reducible refine And.intro ?_ ?_)
 all_goals first|omega|exact(bS rfl (show sK+sK+1+(sK+sK+1)≤sF by decide))
def qK:aR:=nG::(qQ,B8)::(z6,EB)::(qx,Cw)::fI
def SB (d:Nat):Nat:=65536*4^d
abbrev HB (d:Nat):Nat:=1+(sF+SB d)+1
abbrev mJ:List Nat:=[0,1,5,9,11,12,6,7,8]
abbrev uB (n:Nat) (k:Nat→Rat) (p i d:Nat):List AV:=[ls k n,.int .i64 p,.ptr 0 0 3 0 [],.int .i64 i,.own 2 3 0 (d+1),.int .i64 ((d+1:Nat):Int),.int .i64 0,.nil,.int .i64 0]
abbrev j7 (m:Nat) (x:Nat→Rat) (s:Nat→Nat):ah:=⟨true,true,3,m,fun i=>.rat (x i) (s i)⟩
noncomputable abbrev CC:Code:=au uO
noncomputable abbrev uD:Code:=part CC [1,1,1,1,1,0,1,0,0]
noncomputable abbrev rZ:Code:=part uD [1,0,0]
abbrev Bg:List Nat:=[0,1,5,9,12,13,54,55,56,6,7,8]
abbrev Ie (n:Nat) (k:Nat→Rat) (p i d j:Nat):List AV:=[ls k n,.int .i64 p,.ptr 0 0 3 0 [],.int .i64 i,.int .i64 ((d+1:Nat):Int),.own 3 3 0 (d+2),.own 2 3 0 (d+1),.int .i64 ((d+1:Nat):Int),.int .i64 j,.int .i64 0,.nil,.int .i64 0]
theorem adz {n p:Nat} {k:Nat→Rat} {t:Rat}:aH T qK [26,30,36,43] 60 mJ (before CC [1,1,1,1,1,0,1]) ⟨aN 0 [ls k n,.int .i64 p,.rat t sK],[],0⟩=
  let c13 : Int := eE n (fun i ↦ aS (rat (k i) sK)) t; let c12 : AV := int i64 (0 : Int); let c9 : AV := ak 3 n fun i ↦ rat (k i) 4096; let c7 : AV := ptr 0 0 (bn (rat t sK)).size 0 []; let c6 : Int := (2 : Int) ^ 63; let c5 : Nat × ah := ((0 : Nat), ah.mk false true (bn (rat t sK)).size 1 fun x ↦ rat t 4096); let c4 : Int := (↑p : Int); let c3 : Int := (↑(fW n (fun i ↦ aS (rat (k i) sK)) t) : Int); let c15 : Prop := -c6 ≤ c3 - c4 ∧ c3 - c4 < c6; let c14 : Prop := -c6 ≤ c3 + c4 ∧ c3 + c4 < c6; let c11 : Bool := bif false then true else decide (c3 + c4 ≥ (↑n : Int)); let c10 : Bool := decide (c4 < (0 : Int)); let c8 : Bool := bif false then true else decide (c3 - c4 < (0 : Int)); let c2 : aa (List AV × aC) := leaf ret ([c9, int i64 c4, c7, int i64 c3, tuple [], tuple [], c12, nil, int i64 (7 : Int)], [c5]); let c1 : aa (List AV × aC) := ag [(1 : Nat) * 3 ≤ 2 ^ 24] (leaf normal ([c9, int i64 c4, c7, int i64 c3, own 131072 3 0 1, int i64 (1 : Int), c12, nil, c12], [((131072 : Nat), ah.mk true true 3 1 fun i ↦ nth [rat (↑(1 : Int) : Rat) (Max.max 1 (br (Int.natAbs (1 : Int))))] (rat 0 1) i), c5])); some (ag [(0 : Nat) < 1, bG (fun i ↦ rat (k i) sK) n sK, sK ≤ sK, Kn n c4.toNat fun i ↦ aS (rat (k i) sK), (0 : Int) ≤ c4, n < 2 ^ 40] (fork (c13 != (0 : Int)) (leaf ret ([c9, int i64 c4, c7, int i64 c3, tuple [], tuple [], c12, nil, int i64 c13], [c5])) (fork false (fork true (ag [c10 = true, true = true] (fork true c2 c1)) (ag [c10 = true, true = false, c14] (fork c11 c2 c1))) (fork c8 (ag [c10 = false, c15, c8 = true] (fork true c2 c1)) (ag [c10 = false, c15, c8 = false, c14] (fork c11 c2 c1)))))) := by kernel_rfl
theorem aeH {n p i d:Nat} {k x:Nat→Rat} {t:Rat}:aH T qK [48] 60 mJ (before uD [1,0]) ⟨aA mJ (uB n k p i d),[(2,j7 (d+1) x fun _=>SB d),(0,tP t sK)],3⟩=
  let c2:Int:=(↑(d+1):Int);let c1:List AV×aC:=([ak 3 n fun i↦rat (k i) 4096,int i64 (↑p:Int),ptr 0 0 3 0 [],int i64 (↑i:Int),own 2 3 0 (d+1),int i64 c2,int i64 (0:Int),nil,int i64 (0:Int)],[((2:Nat),ah.mk true true 3 (d+1) fun i↦rat (x i) (SB d)),((0:Nat),ah.mk false true 3 1 fun x↦rat t 4096)]);some (fork (decide (c2≤(↑p:Int))) (leaf normal c1) (leaf (exit 0) c1)):=by kernel_rfl
theorem adJ {n p i d:Nat} {k x:Nat→Rat} {t:Rat}:aH T qK [] 60 Bg (before rZ [1,0,1]) ⟨aA mJ (uB n k p i d),[(2,j7 (d+1) x fun _=>SB d),(0,tP t sK)],3⟩=
  let c3:AV:=int i64 (0:Int);let c2:Int:=(↑(d+1):Int);let c1:Int:=c2+(1:Int);some (ag [-(2:Int)^63≤c1∧c1<(2:Int)^63,(0:Int)≤c1∧c1≤c1∧c1≤(2:Int)^47∧c1*(↑(56:Nat):Int)≤(2:Int)^47] (leaf normal ([ak 3 n fun i↦rat (k i) 4096,int i64 (↑p:Int),ptr 0 0 3 0 [],int i64 (↑i:Int),int i64 c2,own 8195 3 0 c1.toNat,own 2 3 0 (d+1),int i64 c2,c3,c3,nil,c3],[((2:Nat),ah.mk true true 3 (d+1) fun i↦rat (x i) (SB d)),((8195:Nat),ah.mk true true 3 c1.toNat fun x↦rat 0 1),((0:Nat),ah.mk false true 3 1 fun x↦rat t 4096)]))):=by kernel_rfl
theorem Tn {n p i d j:Nat} {k x y:Nat→Rat} {s:Nat→Nat} {t:Rat}:aH T qK [57] 60 Bg [part rZ [1,0,1,0,0]] ⟨aA Bg (Ie n k p i d j),[(3,j7 (d+2) y s),(2,j7 (d+1) x fun _=>SB d),(0,tP t sK)],4⟩=
  let c20:AV:=int i64 (0:Int);let c19:AV:=ptr 0 0 3 0 [];let c18:AV:=ak 3 n fun i↦rat (k i) 4096;let c16:Nat:=d+1;let c13:Nat×ah:=((0:Nat),ah.mk false true 3 1 fun x↦rat t 4096);let c11:Int:=(↑j:Int);let c10:Prop:=0<1;let c9:Nat:=d+2;let c8:Nat:=Max.max 1 (br (Int.natAbs (1:Int)));let c7:Nat:=2^42;let c5:Int:=(2:Int)^63;let c25:Prop:=(0:Int)≤c11∧c11.toNat<c9;let c23:Nat:=c8+sF+1;let c22:AV:=own 3 3 0 c9;let c21:AV:=own 2 3 0 c16;let c12:Nat×ah:=((2:Nat),ah.mk true true 3 c16 fun i↦rat (x i) (SB d));let c6:Int:=c11+(1:Int);let c4:Nat:=c11.toNat+0;let c3:Int:=(↑c16:Int);let c29:AV:=int i64 c3;let c27:Prop:=(0:Int)≤c6∧c6.toNat<c9;let c24:Prop:=-c5≤c6∧c6<c5;let c17:Int:=(↑i:Int)-c3;let c2:Nat:=c6.toNat+0;let c28:Int:=c17+(1:Int);let c26:Nat:=s c2+(sF+SB d)+1;let c15:Nat:=bif c4==c2 then c26 else s c4;let c1:Int:=c28+c11;let c14:Rat:=fr (k c1.toNat) (k (c1+c3).toNat) t;some (fork (decide (c11<c3)) (ag [(0:Int)≤c11∧c11.toNat<c16,c4<c16,c10] (ag [-c5≤c17∧c17<c5,-c5≤c28∧c28<c5,-c5≤c1∧c1<c5] (ag [(0:Int)≤c1∧c1.toNat<n,-c5≤c1+c3∧c1+c3<c5,(0:Int)≤c1+c3∧(c1+c3).toNat<n,c10,sK≤sK,sK≤sK,sK≤sK,c10] (ag [c24,c24,c27,c2<c9,c10,c10,sF<c7,SB d<c7,s c2<c7,sF+SB d<c7,c27,c2<c9] (ag [c25,c4<c9,c10,c8<c7,sF<c7,c10,c23<c7,SB d<c7,c15<c7,c23+SB d<c7,c25,c4<c9] (ag [c24] (leaf normal ([c18,int i64 (↑p:Int),c19,int i64 (↑i:Int),c29,c22,c21,c29,int i64 c6,c20,nil,c20],[c12,((3:Nat),ah.mk true true 3 c9 fun j↦rat (bif j==c4 then(bif c4==c2 then y c2+c14*x c4 else y c4)+((↑(1:Int):Rat)-c14)*x c4 else bif j==c2 then y c2+c14*x c4 else y j) (bif j==c4 then c15+(c23+SB d)+1 else bif j==c2 then c26 else s j)),c13])))))))) (leaf (exit 2) ([c18,int i64 (↑p:Int),c19,int i64 (↑i:Int),c29,c22,c21,c29,int i64 c11,c20,nil,c20],[c12,((3:Nat),ah.mk true true 3 c9 fun i↦rat (y i) (s i)),c13]))):=by kernel_rfl
theorem ajh {n p i d j:Nat} {k x y:Nat→Rat} {s:Nat→Nat} {t:Rat}:aH T qK [] 60 mJ [part rZ [1,1],part uD [1,1]] ⟨aA Bg (Ie n k p i d j),[(3,j7 (d+2) y s),(2,j7 (d+1) x fun _=>SB d),(0,tP t sK)],4⟩=
  let c1:Int:=(↑(d+1):Int)+(1:Int);some (ag [-(2:Int)^63≤c1∧c1<(2:Int)^63] (leaf normal ([ak 3 n fun i↦rat (k i) 4096,int i64 (↑p:Int),ptr 0 0 3 0 [],int i64 (↑i:Int),own 3 3 0 (d+2),int i64 c1,int i64 (0:Int),nil,int i64 (0:Int)],[((3:Nat),ah.mk true true 3 (d+2) fun i↦rat (y i) (s i)),((0:Nat),ah.mk false true 3 1 fun x↦rat t 4096)]))):=by kernel_rfl
theorem S5 {n p i d:Nat} {k x:Nat→Rat} {t:Rat}:cm T qK [] 60 uO [part CC [1,1,1,1,1,1]] ⟨aA mJ (uB n k p i d),[(2,j7 (d+1) x fun _=>SB d),(0,tP t sK)],3⟩=
  let c1:Int:=(↑i:Int)-(↑p:Int);some (ag [-(2:Int)^63≤c1∧c1<(2:Int)^63] (leaf ret [int i64 c1,ak 3 (d+1) fun i↦rat (x (i+0)) (SB d),int i64 (0:Int)])):=by kernel_rfl
theorem CD {d:Nat}:SB (d+1)=4*SB d:=by unfold SB;rw[Nat.pow_succ];omega
theorem u5:∀{d:Nat},65536≤SB d
 |0=>by unfold SB;omega
 |d+1=>by rw[CD];have:=u5 (d:=d);omega
theorem Dj:sF=16386:=rfl
theorem adm {d e:Nat} (h:d≤e):SB d≤SB e:=Nat.mul_le_mul_left _ (Nat.pow_le_pow_right (by omega) h)
abbrev sV:Nat:=268435456
theorem wC {d:Nat} (h:d≤6):SB d≤sV:=Nat.le_trans (adm h) (by decide)
def yy (n:Nat) (k:Nat→Rat) (p:Nat) (t:Rat) (f:Nat→Rat):AV:=.tuple [.int .i64 (if ek n k t then 0 else(bP n k t:Int)-p),.ak 3 (if ek n k t then 0 else p+1) (fun j=>.rat (f j) sV),.int .i64 (eE n k t)]
abbrev DM (n:Nat) (k:Nat→Rat) (p:Nat) (t:Rat):AV:=yy n k p t (vB k (bP n k t) t p)
theorem afW {n p:Nat} {k f:Nat→Rat} {t:Rat} (h:ek n k t):dX [.int .i64 0,.nil,.int .i64 7] (yy n k p t f):=by
 unfold yy eE
 rw[if_pos h,if_pos h,if_pos h]
 exact⟨.refl _,kT (by omega),.refl _,trivial⟩
theorem abV {n p:Nat} {k f:Nat→Rat} {t:Rat} {g:Nat→AV} (h:¬ek n k t) (hg:∀j,j<p+1→bB (g j) (.rat (f j) sV)):dX [.int .i64 ((bP n k t:Int)-p),.ak 3 (p+1) g,.int .i64 0] (yy n k p t f):=by
 unfold yy eE
 rw[if_neg h,if_neg h,if_neg h]
 exact⟨.refl _,mN hg,.refl _,trivial⟩
theorem vK:aY P qK:=dr (aG EM (aG Nd (aG (Ea EW) ga)))
def vS (k:Nat→Rat) (i:Nat) (t:Rat) (d j:Nat):Rat:=if j=0 then 0 else fr (k (i-d+(j-1))) (k (i-d+(j-1)+(d+1))) t*vB k i t d (j-1)
def lO (k:Nat→Rat) (i:Nat) (t:Rat) (d j x:Nat):Rat:=if x<j then vB k i t (d+1) x else if x=j then vS k i t d j else 0
def js (d j x:Nat):Nat:=if x<j then SB (d+1)else if x=j then HB d else 1
theorem aeq {rl:List (Nat×Nat)} {k:Nat→Rat} {i d j x:Nat} {t:Rat} (hj:j≤d):
  fD rl (.rat (bif x==j then(bif j==j+1 then lO k i t d j (j+1)+fr (k (i-d+j)) (k (i-d+j+(d+1))) t*vB k i t d j else lO k i t d j j)+(((1:Int):Rat)-fr (k (i-d+j)) (k (i-d+j+(d+1))) t)*vB k i t d j
   else bif x==j+1 then lO k i t d j (j+1)+fr (k (i-d+j)) (k (i-d+j+(d+1))) t*vB k i t d j else lO k i t d j x)
   (bif x==j then(bif j==j+1 then js d j (j+1)+(sF+SB d)+1 else js d j j)+(1+sF+1+SB d)+1 else bif x==j+1 then js d j (j+1)+(sF+SB d)+1 else js d j x))
   (.rat (lO k i t d (j+1) x) (js d (j+1) x)):=by
 have h1:=CD (d:=d)
 have h2:=u5 (d:=d)
 have h3:=Dj
 have hjj:(j==j+1)=false:=by simp
 rw[hjj]
 refine .inr ⟨rfl,?_⟩
 by_cases hx:x=j
 ·subst hx
  simp only[beq_self_eq_true,cond_true,cond_false]
  refine bS ?_ ?_
  ·unfold lO
   rw[if_neg (by omega),if_pos rfl,if_pos (by omega),vB,if_pos hj]
   have:((1:Int):Rat)=1:=rfl
   rw[this];rfl
  ·unfold js HB
   rw[if_neg (by omega),if_pos rfl,if_pos (by omega)];omega
 ·have hb:(x==j)=false:=by simpa using hx
  rw[hb]
  by_cases hx2:x=j+1
  ·subst hx2
   simp only[beq_self_eq_true,cond_true,cond_false]
   refine bS ?_ ?_
   ·unfold lO vS
    rw[if_neg (by omega),if_neg (by omega),if_neg (by omega),if_pos rfl,if_neg (by omega),Nat.add_sub_cancel,Rat.zero_add]
   ·unfold js HB
    rw[if_neg (by omega),if_neg (by omega),if_neg (by omega),if_pos rfl];omega
  ·have hb2:(x==j+1)=false:=by simpa using hx2
   rw[hb2]
   simp only[cond_false]
   refine bS ?_ ?_
   ·unfold lO
    by_cases hlt:x<j
    ·rw[if_pos hlt,if_pos (by omega)]
    ·rw[if_neg hlt,if_neg hx,if_neg (by omega),if_neg hx2]
   ·unfold js
    by_cases hlt:x<j
    ·rw[if_pos hlt,if_pos (by omega)];omega
    ·rw[if_neg hlt,if_neg hx,if_neg (by omega),if_neg hx2];omega
theorem ahF {n p:Nat} {k:Nat→Rat} {t:Rat} (h:Kn n p k) (hp6:p≤6) (hn:n<2^40) (K:Nat):aB P zh K [ls k n,.int .i64 p,.rat t sK] [] (aK (DM n k p t) []):=by
 refine iq (r:=aK (DM n k p t) []) hT Pu rfl (of_decide_eq_true (by kernel_rfl)) rfl (fun _ c h0=>?_) K []
 have hk:=qv h0
 have hiv:¬ek n k t→p≤bP n k t∧bP n k t+p+1<n:=fun hin=>by
  have h1:¬t<k 0:=fun h=>hin (.inl h)
  have h2:¬k (n-1)<t:=fun h=>hin (.inr h)
  exact(h.D4 (by grind) (by grind)).2
 have hp1:=h.p1
 have hl:=h.len
 refine aq.yY hT vK hm [1,1,1,1,1,0,1] (i:=0) (y:=uD) (z:=part CC [1,1,1,1,1,1]) (by kernel_rfl) (by kernel_rfl) (by kernel_rfl) Pu.dst hk (f1:=[26,30,36,43]) 60 mJ 3 (fun d:Nat=>uB n k p (bP n k t) d) (fun d=>[(2,j7 (d+1) (vB k (bP n k t) t d) fun _=>SB d),(0,tP t sK)])
  (fun d=>d≤p∧¬ek n k t) (fun d=>d=p∧¬ek n k t) (fun d=>p-d) (nU uO mJ (DM n k p t)) ⟨_,adz,?_⟩ (fun d ⟨hd,hin⟩=>?_) (fun d ⟨hd,hin⟩=>?_) (fun v s' hv hs'=>hv.fin hs')
 ·simp only[aa.all,ax,vR,bne_iff_ne,ne_eq,bne_eq_false_iff_eq,decide_eq_true_eq,decide_eq_false_iff_not,cond_false,Int.toNat_natCast]
  refine⟨⟨by omega,cM (Nat.le_refl _),Nat.le_refl _,h,by omega,hn⟩,fun hout=>?_,fun hin=>?_⟩
  ·have hout:ek n k t:=by
    unfold eE at hout
    by_cases ho:ek n k t
    ·exact ho
    ·rw[if_neg ho]at hout;exact absurd rfl hout
   refine⟨[.int .i64 0,.nil,.int .i64 7],?_,afW hout⟩
   unfold eE
   rw[if_pos hout]
   kernel_rfl
  ·have hin:¬ek n k t:=fun ho=>by unfold eE at hin;rw[if_pos ho]at hin;omega
   have hii:fW n k t=bP n k t:=by unfold fW;rw[if_neg hin]
   have hv:=hiv hin
   simp only[hii,decide_eq_true_eq,decide_eq_false_iff_not]
   (repeat' with_reducible first|refine And.intro ?_ ?_|intro _)
   all_goals first|omega|(exfalso;omega)|exact absurd ‹false=true› (by decide)|exact absurd ‹true=false› (by decide)|skip
   refine⟨0,⟨by omega,hin⟩,[(0,0),(2,131072)],rfl,rfl,rfl,bh rfl rfl rfl (fun i hi=>?_) (aJ rfl rfl (aE rfl rfl) trivial)⟩
   have:i=0:=by omega
   subst this
   exact .inr ⟨rfl,bS rfl (by have:=u5 (d:=0);exact Nat.le_trans (by decide) this)⟩
 ·have hv:=hiv hin
  refine aq.qi hT vK hm (y:=uD) (x1:=rZ) (zb:=part uD [1,1]) [1,0] (j:=1) (by kernel_rfl) (by kernel_rfl) (by kernel_rfl) (by kernel_rfl) hk (f1:=[48]) 60 mJ 3 (fun _:Unit=>uB n k p (bP n k t) d) (fun _=>[(2,j7 (d+1) (vB k (bP n k t) t d) fun _=>SB d),(0,tP t sK)]) (fun _=>d+1≤p) ⟨_,aeH,?_⟩ (fun _ hd'=>?_)
  ·simp only[aa.all,ax,decide_eq_true_eq,decide_eq_false_iff_not]
   have re:dU [] ([ak 3 n fun i=>rat (k i) sK,int i64 p,ptr 0 0 3 0 [],int i64 (bP n k t),own 2 3 0 (d+1),int i64 ((d+1:Nat):Int),int i64 (0:Int),nil,int i64 (0:Int)],[((2:Nat),ah.mk true true 3 (d+1) fun i↦rat (vB k (bP n k t) t d i) (SB d)),((0:Nat),ah.mk false true 3 1 fun x↦rat t sK)]) (uB n k p (bP n k t) d) [(2,j7 (d+1) (vB k (bP n k t) t d) fun _=>SB d),(0,tP t sK)] 3:=
    ⟨[(0,0),(2,2)],rfl,rfl,rfl,bh rfl rfl rfl (fun i hi=>aE rfl rfl) (aJ rfl rfl (aE rfl rfl) trivial)⟩
   exact⟨fun h1=>⟨(),by omega,re⟩,fun h1 s' hs'=>⟨rfl,d,⟨by omega,hin⟩,re.le hs' hk⟩⟩
  refine aq.nN hT vK hm (x:=rZ) (z:=part rZ [1,1]) [1,0,1] (i:=2) (y:=part rZ [1,0,1,0,0]) (by kernel_rfl) (by kernel_rfl) (by kernel_rfl) (by kernel_rfl) hk (f1:=[]) (f2:=[57]) 60 Bg 4 (fun j:Nat=>Ie n k p (bP n k t) d j)
   (fun j=>[(3,j7 (d+2) (lO k (bP n k t) t d j) (js d j)),(2,j7 (d+1) (vB k (bP n k t) t d) fun _=>SB d),(0,tP t sK)]) (fun j=>j≤d+1) (fun j=>j=d+1) (fun j=>d+1-j) (fun _=>False) ⟨_,adJ,?_⟩ (fun j hj=>⟨_,Tn,?_⟩) (fun j hj=>?_) (fun _ _ h=>h.elim)
  ·simp only[aa.all,ax]
   rw[show(((d+1:Nat):Int)+1).toNat=d+2 by omega]
   refine⟨⟨by omega,by omega⟩,0,by omega,[(0,0),(2,2),(3,8195)],rfl,rfl,rfl,bh rfl rfl rfl (fun i hi=>?_) (bh rfl rfl rfl (fun i hi=>aE rfl rfl) (aJ rfl rfl (aE rfl rfl) trivial))⟩
   refine .inr ⟨rfl,bS ?_ ?_⟩
   ·unfold lO vS;rw[if_neg (by omega)];split<;>rfl
   ·unfold js HB;rw[if_neg (by omega)];split<;>omega
  ·have hF:=Dj
   have h1:=u5 (d:=d)
   have h2:=wC (d:=d) (by omega)
   have h3:=wC (d:=d+1) (by omega)
   have h5:sV=268435456:=rfl
   have s0:js d j j=HB d:=by unfold js;rw[if_neg (by omega),if_pos rfl]
   have s1:js d j (j+1)=1:=by unfold js;rw[if_neg (by omega),if_neg (by omega)]
   have e0:((bP n k t:Int)-((d+1:Nat):Int)+1+(j:Int)).toNat=bP n k t-d+j:=by omega
   have e1:((bP n k t:Int)-((d+1:Nat):Int)+1+(j:Int)+((d+1:Nat):Int)).toNat=bP n k t-d+j+(d+1):=by omega
   have e2:((j:Int)+1).toNat=j+1:=by omega
   simp only[aa.all,ax,decide_eq_true_eq,decide_eq_false_iff_not,Int.toNat_natCast,Nat.add_zero,e0,e1,e2,Xb]
   have hjj:(j==j+1)=false:=by simp
   refine⟨fun h4=>?_,fun h4=>⟨rfl,j,by omega,[(0,0),(2,2),(3,3)],rfl,rfl,rfl,bh rfl rfl rfl (fun i hi=>aE rfl rfl) (bh rfl rfl rfl (fun i hi=>aE rfl rfl) (aJ rfl rfl (aE rfl rfl) trivial))⟩⟩
   (repeat' with_reducible refine And.intro ?_ ?_)
   all_goals first|omega|(rw[s1];omega)|(rw[hjj,cond_false,s0];unfold HB;omega)|skip
   refine⟨j+1,by omega,by dsimp only;omega,[(0,0),(2,2),(3,3)],rfl,rfl,rfl,bh rfl rfl rfl (fun x hx=>aeq (by omega)) (bh rfl rfl rfl (fun i hi=>aE rfl rfl) (aJ rfl rfl (aE rfl rfl) trivial))⟩
  ·subst hj
   refine aq.tail (fun s' hh=>by have:=hh.1;omega) (aD.bf hT vK hm 60 mJ ajh (by kernel_rfl) ?_)
   simp only[aa.all,ax]
   refine⟨by omega,fun s' hs'=>⟨d+1,⟨hd',hin⟩,by dsimp only;omega,dU.le ⟨[(0,0),(2,3)],rfl,rfl,rfl,bh rfl rfl rfl (fun x hx=>?_) (aJ rfl rfl (aE rfl rfl) trivial)⟩ hs' hk⟩⟩
   refine .inr ⟨rfl,bS ?_ ?_⟩
   ·unfold lO
    by_cases hlt:x<d+1
    ·rw[if_pos hlt]
    ·have:x=d+1:=by omega
     subst this
     rw[if_neg (by omega),if_pos rfl,vB,if_neg (show¬d+1≤d by omega),Rat.add_zero];rfl
   ·have h1:=CD (d:=d)
    have h2:=u5 (d:=d)
    have hF:=Dj
    show _≤SB (d+1)
    unfold js HB
    split
    ·omega
    ·split<;>omega
 ·subst hd
  refine aq.mD ((aD.fin hT vK hm 60 S5 (by kernel_rfl) ?_).mono fun _ _ h=>.inl h)
  simp only[aa.all,ax]
  exact⟨by have:=hiv hin;omega,abV hin fun j _=>fC (wC hp6)⟩
end Go.Am.B

/- basis.Sum; numbers of we. -/
namespace Go.Am.B
open Go Go.Am.N AV aa aj IntKind
theorem VF:aO P pJ w7 (au w7):=aQ Sl (by kernel_rfl) (by kernel_rfl) (by kernel_rfl)
def JM:Spec:=cQ Qo (fun a=>DM a.1.1 a.1.2 a.2.1.toNat a.2.2.1) fun a=>[Kn a.1.1 a.2.1.toNat a.1.2,0≤a.2.1,a.2.1≤6,a.1.1<2^40]
theorem XO:∀K args pre r,JM K args pre=some r→aB P zh K args pre r:=cU fun⟨⟨n,k⟩,p,t,_⟩ K hn=>by
 obtain⟨h1,h2,h3,h4⟩:=hn
 have h3:p≤6:=h3
 have:=ahF h1 (by simp only;omega) h4 K (t:=t)
 rw[Int.toNat_of_nonneg h2]at this
 exact this
def uS:Spec:=cQ (kC (kL sK) (kC kI kN)) (fun a=>.int .i64 ((a.1.1:Int)-a.2.1-1)) fun a=>[a.1.1<2^40,-2^40<a.2.1,a.2.1<2^40]
theorem Tp {n:Nat} {k:Nat→Rat} {p:Int}:bF T [nG] [] 60 w7 (au w7) ⟨aN 0 [ls k n,.int .i64 p],[],0⟩=
  let c3:Int:=(↑n:Int)-p;let c1:Int:=(2:Int)^63;let c2:Int:=c3-(1:Int);some (ag [-c1≤c3∧c3<c1,-c1≤c2∧c2<c1] (leaf ret [int i64 c2])):=by kernel_rfl
theorem xw:∀K args pre r,uS K args pre=some r→aB P pJ K args pre r:=cU fun⟨⟨n,k⟩,p,_⟩ K hn=>by
 obtain⟨h1,h2,h3⟩:=hn
 have h3:p<2^40:=h3
 simp only at h1 h2
 refine bJ (r:=aK (.int .i64 ((n:Int)-p-1)) []) hT (dr bk) hm VF rfl (of_decide_eq_true (by kernel_rfl)) rfl 60 Tp (fun _=>?_) K []
 simp only[aa.all,ax]
 exact⟨by omega,.refl _⟩
abbrev zO:ah:=⟨false,true,3,1,fun _=>.rat 0 1⟩
theorem Kc {n:Nat} {k:Nat→Rat} {t:Rat} (h:eE n k t≠0):ek n k t:=by
 unfold eE at h
 by_cases ho:ek n k t
 ·exact ho
 ·rw[if_neg ho]at h;exact absurd rfl h
theorem Js {n:Nat} {k:Nat→Rat} {t:Rat} (h:eE n k t=0):¬ek n k t:=fun ho=>by unfold eE at h;rw[if_pos ho]at h;omega
theorem Kn.Bm {n p:Nat} {k:Nat→Rat} (h:Kn n p k) {t:Rat} (hin:¬ek n k t):p≤bP n k t∧bP n k t+p+1<n:=by
 have h1:¬t<k 0:=fun h=>hin (.inl h)
 have h2:¬k (n-1)<t:=fun h=>hin (.inr h)
 exact(h.D4 (by grind) (by grind)).2
end Go.Am.B

/- Plain laws of fF: multiplicities, different fF, which lists are valid. -/
namespace Go.Am.B
def bT (k:Nat→Rat) (t:Rat):Nat→Nat
 |0=>0
 |i+1=>bT k t i+if k i=t then 1 else 0
def gm (k:Nat→Rat) (i:Nat):Prop:=i=0∨k i≠k (i-1)
instance {k:Nat→Rat} {i:Nat}:Decidable (gm k i):=inferInstanceAs (Decidable (i=0∨k i≠k (i-1)))
def bX (k:Nat→Rat):Nat→Nat
 |0=>0
 |i+1=>bX k i+if gm k i then 1 else 0
def dD (k:Nat→Rat):Nat→Nat→Rat
 |0=>fun _=>0
 |i+1=>if gm k i then kz (dD k i) (bX k i) (k i)else dD k i
theorem Nk {k:Nat→Rat} {t:Rat}:∀{n:Nat},bT k t n≤n
 |0=>Nat.le_refl _
 |n+1=>by
  have:=Nk (k:=k) (t:=t) (n:=n)
  unfold bT;split<;>omega
theorem rm {k:Nat→Rat}:∀{n:Nat},bX k n≤n
 |0=>Nat.le_refl _
 |n+1=>by
  have:=rm (k:=k) (n:=n)
  unfold bX;split<;>omega
theorem HU {k:Nat→Rat}:∀{n j:Nat},j<bX k n→∃i,i<n∧dD k n j=k i
 |0,j,h=>by simp[bX]at h
 |n+1,j,h=>by
  rw[dD]
  rw[bX]at h
  by_cases hn:gm k n
  ·rw[if_pos hn]at h ⊢
   by_cases he:j=bX k n
   ·subst he;exact⟨n,by omega,ue⟩
   ·obtain⟨i,h1,h2⟩:=HU (k:=k) (n:=n) (j:=j) (by omega)
    exact⟨i,by omega,by rw[lV he];exact h2⟩
  ·rw[if_neg hn]at h ⊢
   obtain⟨i,h1,h2⟩:=HU (k:=k) (n:=n) (j:=j) (by omega)
   exact⟨i,by omega,h2⟩
def qR (n:Nat) (k:Nat→Rat):Prop:=∀i,i+1<n→k i≤k (i+1)
def ke (n:Nat) (k:Nat→Rat) (p:Nat) (t:Rat):Prop:=((t=k 0∨t=k (n-1))∧bT k t n≠p+1)∨(¬(t=k 0∨t=k (n-1))∧p<bT k t n)
instance {n:Nat} {k:Nat→Rat} {p:Nat} {t:Rat}:Decidable (ke n k p t):=inferInstanceAs (Decidable (((t=k 0∨t=k (n-1))∧bT k t n≠p+1)∨(¬(t=k 0∨t=k (n-1))∧p<bT k t n)))
def qg (n:Nat) (k:Nat→Rat) (p:Nat):Prop:=qR n k∧k 0≠k (n-1)∧∀j,j<bX k n→¬ke n k p (dD k n j)
open Classical in
noncomputable def gp (n:Nat) (k:Nat→Rat) (p:Int):Int:=
 if p<1∨6<p then 1 else if(n:Int)<2*p+2 then 5 else if 40<(n:Int)-p-1 then 2 else if qg n k p.toNat then 0 else 5
theorem Od {k:Nat→Rat} {t:Rat} {a b:Nat} (hab:a≤b):∀{n:Nat},(∀i,i<n→k i=t→a≤i∧i<b)→bT k t n≤min n b-min n a
 |0,_=>by simp[bT]
 |n+1,h=>by
  have ih:=Od (k:=k) (t:=t) hab (n:=n) fun i hi=>h i (by omega)
  rw[bT]
  split
  ·rename_i e
   have:=h n (by omega) e
   omega
  ·omega
theorem Ij {k:Nat→Rat} {t:Rat} {a b:Nat} (hab:a≤b):∀{n:Nat},(∀i,i<n→(k i=t↔a≤i∧i<b))→bT k t n=min n b-min n a
 |0,_=>by simp[bT]
 |n+1,h=>by
  have ih:=Ij (k:=k) (t:=t) hab (n:=n) fun i hi=>h i (by omega)
  rw[bT]
  have:=h n (by omega)
  split
  ·rename_i e
   have:=this.1 e
   omega
  ·rename_i e
   have:¬(a≤n∧n<b):=fun h=>e (this.2 h)
   omega
theorem least {q:Nat→Prop} [DecidablePred q]:∀{n:Nat},q n→∃a,a≤n∧q a∧∀i,i<a→¬q i
 |0,h=>⟨0,Nat.le_refl _,h,fun i hi=>by omega⟩
 |n+1,h=>by
  by_cases h2:∃i,i<n+1∧q i
  ·obtain⟨i,hi,hq⟩:=h2
   obtain⟨a,h3,h4,h5⟩:=least_lt hi hq
   exact⟨a,by omega,h4,h5⟩
  ·exact⟨n+1,Nat.le_refl _,h,fun i hi hq=>h2 ⟨i,hi,hq⟩⟩
where
 least_lt {q:Nat→Prop} [DecidablePred q]:∀{n i:Nat},i<n→q i→∃a,a<n∧q a∧∀i,i<a→¬q i
 |0,i,h,_=>by omega
 |n+1,i,h,hq=>by
  by_cases h2:∃j,j<n∧q j
  ·obtain⟨j,hj,hq⟩:=h2
   obtain⟨a,h3,h4,h5⟩:=least_lt hj hq
   exact⟨a,by omega,h4,h5⟩
  ·have:i=n:=by
    by_cases e:i=n
    ·exact e
    ·exact absurd ⟨i,by omega,hq⟩ h2
   subst this
   exact⟨i,h,hq,fun j hj hq=>h2 ⟨j,hj,hq⟩⟩
theorem Kn.qg {n p:Nat} {k:Nat→Rat} (h:Kn n p k):qg n k p:=by
 have hp:=h.p1
 have hl:=h.len
 have hw:k p<k (p+1):=by
  have:=h.mult 1 (by omega) (by omega)
  rw[h.first 1 (by omega),show 1+p=p+1 by omega]at this
  rw[h.first p (by omega)];exact this
 have hw2:k (n-p-2)<k (n-p-1):=by
  by_cases he:n=2*p+2
  ·have e1:n-p-2=p:=by omega
   have e2:n-p-1=p+1:=by omega
   rw[e1,e2];exact hw
  ·have:=h.mult (n-p-2) (by omega) (by omega)
   rw[h.last (n-p-2+p) (by omega) (by omega),←h.last (n-p-1) (by omega) (by omega)]at this
   exact this
 have m:∀{i j},i≤j→j<n→k i≤k j:=fun hi hj=>eL h.sorted hi hj
 have h0l:k 0<k (n-1):=by
  have a:=m (i:=p+1) (j:=n-1) (by omega) (by omega)
  have b:=h.first p (Nat.le_refl _)
  grind
 refine⟨h.sorted,by grind,fun j hj=>?_⟩
 obtain⟨i,hi,e⟩:=HU hj
 rw[e]
 unfold ke
 by_cases h0:k i=k 0
 ·have:bT k (k i) n=p+1:=by
   rw[Ij (a:=0) (b:=p+1) (by omega) (n:=n) fun x hx=>?_]
   ·omega
   ·rw[h0]
    constructor
    ·intro ex
     refine⟨by omega,?_⟩
     by_cases hx2:x<p+1
     ·exact hx2
     ·have:=m (i:=p+1) (j:=x) (by omega) hx
      have b:=h.first p (Nat.le_refl _)
      grind
    ·intro hx2;exact h.first x (by omega)
  rw[this]
  simp[h0]
 ·by_cases h1:k i=k (n-1)
  ·have:bT k (k i) n=p+1:=by
    rw[Ij (a:=n-p-1) (b:=n) (by omega) (n:=n) fun x hx=>?_]
    ·omega
    ·rw[h1]
     constructor
     ·intro ex
      refine⟨?_,hx⟩
      by_cases hx2:n-p-1≤x
      ·exact hx2
      ·have:=m (i:=x) (j:=n-p-2) (by omega) (by omega)
       have b:=h.last (n-p-1) (by omega) (by omega)
       grind
     ·intro hx2;exact h.last x (by omega) hx
   rw[this]
   simp[h1]
  ·obtain⟨a,ha,e,hlt⟩:=least (q:=fun x=>k x=k i) (n:=i) rfl
   have ha0:p<a:=by
    by_cases hx:p<a
    ·exact hx
    ·have:=h.first a (by omega)
     rw[this]at e;exact absurd e.symm h0
   have hal:a+p+1<n:=by
    by_cases hx:a+p+1<n
    ·exact hx
    ·have:=h.last a (by omega) (by omega)
     rw[this]at e;exact absurd e.symm h1
   have hm:=h.mult a (by omega) hal
   have:bT k (k i) n≤min n (a+p)-min n a:=by
    refine Od (by omega) fun x hx ex=>⟨?_,?_⟩
    ·by_cases hx2:a≤x
     ·exact hx2
     ·exact absurd ex (hlt x (by omega))
    ·by_cases hx2:x<a+p
     ·exact hx2
     ·have:=m (i:=a+p) (j:=x) (by omega) hx
      grind
   intro hb
   rcases hb with⟨h2,_⟩|⟨_,h2⟩
   ·exact h2.elim h0 h1
   ·omega
theorem Kn.Px {n p:Nat} {k:Nat→Rat} (h:Kn n p k) (hp6:p≤6) (hn:n≤p+41):gp n k p=0:=by
 have hp:=h.p1
 have hl:=h.len
 unfold gp
 rw[if_neg (by omega),if_neg (by omega),if_neg (by omega),if_pos (by rw[Int.toNat_natCast];exact h.qg)]
end Go.Am.B

/- Plain laws of fF: how the different ones are moved to the front; which lists are sorted. -/
namespace Go.Am.B
def ir (k:Nat→Rat) (l i:Nat):Rat:=if i<bX k l then dD k l i else k i
theorem EP {k:Nat→Rat}:∀{b:Nat},(∀i,i<b→gm k i)→bX k b=b∧∀i,i<b→dD k b i=k i
 |0,_=>⟨rfl,fun i hi=>by omega⟩
 |b+1,h=>by
  obtain⟨h1,h2⟩:=EP (k:=k) (b:=b) fun i hi=>h i (by omega)
  rw[bX,dD,if_pos (h b (by omega)),if_pos (h b (by omega)),h1]
  refine⟨rfl,fun i hi=>?_⟩
  unfold kz
  split
  ·rename_i e;rw[e]
  ·exact h2 i (by omega)
theorem Yx {k:Nat→Rat} {b:Nat} (h:∀i,i<b→gm k i) (hb:¬gm k b):bX k (b+1)=b∧∀i,ir k (b+1) i=k i:=by
 obtain⟨h1,h2⟩:=EP h
 have e:bX k (b+1)=b:=by rw[bX,if_neg hb,h1];rfl
 refine⟨e,fun i=>?_⟩
 unfold ir
 rw[e,dD,if_neg hb]
 split
 ·exact h2 i ‹_›
 ·rfl
theorem Pz {k:Nat→Rat} {n:Nat} (h:∀i,i<n→gm k i):bX k n=n∧∀i,i<n→dD k n i=k i:=EP h
theorem ahc {k:Nat→Rat} {l i:Nat} (h:gm k l) (hl:bX k l≤l):ir k (l+1) i=if i=bX k l then k l else ir k l i:=by
 unfold ir
 rw[bX,dD,if_pos h,if_pos h]
 unfold kz
 by_cases h1:i=bX k l
 ·subst h1
  rw[if_pos (by omega),if_pos rfl,if_pos rfl]
 ·rw[if_neg h1]
  by_cases h2:i<bX k l
  ·rw[if_pos (by omega),if_pos h2,if_neg h1]
  ·rw[if_neg (by omega),if_neg h2,if_neg h1]
theorem adt {k:Nat→Rat} {l i:Nat} (h:¬gm k l):bX k (l+1)=bX k l∧ir k (l+1) i=ir k l i:=by
 unfold ir
 rw[bX,dD,if_neg h,if_neg h]
 exact⟨rfl,rfl⟩
theorem ab3 {k:Nat→Rat} {l:Nat} (h:gm k l):bX k (l+1)=bX k l+1:=by rw[bX,if_pos h]
theorem I3 {k:Nat→Rat} {l:Nat} (h:¬gm k l):bX k (l+1)=bX k l:=by rw[bX,if_neg h];rfl
theorem NW {k:Nat→Rat} {l i:Nat} (h:bX k l≤i):ir k l i=k i:=by unfold ir;rw[if_neg (by omega)]
theorem JK {k:Nat→Rat} {b:Nat} (hb:¬gm k b):∀{l:Nat},b<l→bX k l<l
 |0,h=>by omega
 |l+1,h=>by
  by_cases he:l=b
  ·subst he;rw[I3 hb];have:=rm (k:=k) (n:=l);omega
  ·have:=JK hb (l:=l) (by omega)
   have h2:=rm (k:=k) (n:=l)
   rw[bX];split<;>omega
open Classical in
theorem Zy {n:Nat} {k:Nat→Rat} {p:Int} (h:p<1∨6<p):gp n k p=1:=if_pos h
theorem Ul {n:Nat} {k:Nat→Rat} {p:Int} (h:¬(p<1∨6<p)) (h2:(n:Int)<2*p+2):gp n k p=5:=by unfold gp;rw[if_neg h,if_pos h2]
theorem agZ {n:Nat} {k:Nat→Rat} {p:Int} (h:¬(p<1∨6<p)) (h2:¬(n:Int)<2*p+2) (h3:40<(n:Int)-p-1):gp n k p=2:=by unfold gp;rw[if_neg h,if_neg h2,if_pos h3]
theorem U5 {n:Nat} {k:Nat→Rat} {p:Int} (h:¬(p<1∨6<p)) (h2:¬(n:Int)<2*p+2) (h3:¬40<(n:Int)-p-1) (h4:qg n k p.toNat):gp n k p=0:=by unfold gp;rw[if_neg h,if_neg h2,if_neg h3,if_pos h4]
theorem F3 {n:Nat} {k:Nat→Rat} {p:Int} (h:¬(p<1∨6<p)) (h2:¬(n:Int)<2*p+2) (h3:¬40<(n:Int)-p-1) (h4:¬qg n k p.toNat):gp n k p=5:=by unfold gp;rw[if_neg h,if_neg h2,if_neg h3,if_neg h4]
end Go.Am.B

/- fF.Times, ref08.Times; fF.copied. -/
namespace Go.Am.B
open Go Go.Am.N AV aa aj IntKind
theorem adM:aO P sj AB (au AB):=aQ aeu (by kernel_rfl) (by kernel_rfl) (by kernel_rfl)
theorem Ek:aO P ou za (au za):=aQ afL (by kernel_rfl) (by kernel_rfl) (by kernel_rfl)
abbrev wM:List Nat:=[3,5,8,9,10]
abbrev xT (n:Nat) (k:Nat→Rat) (c i:Nat):List AV:=[.ptr 0 0 3 0 [],.int .i64 c,ls k n,.int .i64 n,.int .i64 i]
noncomputable abbrev zo:Code:=au AB
abbrev sJ:Nat:=4000
abbrev fK (m:Nat) (k:Nat→Rat):ah:=⟨true,true,3,m,fun i=>.rat (k i) sK⟩
abbrev vY:List Nat:=[3,9,10,11]
abbrev Eu (n:Nat) (k:Nat→Rat) (i:Nat):List AV:=[.own 0 3 0 i,bt k n sJ,.int .i64 n,.int .i64 i]
noncomputable abbrev mE:Code:=au za
theorem aef {n:Nat} {k:Nat→Rat} {t:Rat}:aH T fQ [] 60 wM (before zo [1,1,0,1]) ⟨aN 0 [ls k n,.rat t sK],[],0⟩=
  some (leaf normal ([ptr 0 0 (bn (rat t sK)).size 0 [],int i64 (0:Int),ak 3 n fun i↦rat (k i) 4096,int i64 (↑n:Int),int i64 (0:Int)],[((0:Nat),ah.mk false true (bn (rat t sK)).size 1 fun x↦rat t 4096)])):=by kernel_rfl
theorem acj {n c i:Nat} {k:Nat→Rat} {t:Rat}:aH T fQ [11,16] 60 wM [part zo [1,1,0,1,0,0]] ⟨aA wM (xT n k c i),[(0,tP t sK)],1⟩=
  let c10:Int:=(↑n:Int);let c9:Prop:=0<1;let c8:Int:=(↑c:Int)+(1:Int);let c7:AV:=ak 3 n fun i↦rat (k i) 4096;let c5:Int:=(↑i:Int);let c4:AV:=ptr 0 0 3 0 [];let c2:Int:=(2:Int)^63;let c1:Nat×ah:=((0:Nat),ah.mk false true 3 1 fun x↦rat t 4096);let c6:Int:=c5+(1:Int);let c3:List AV:=[c7,int i64 c10,int i64 c6];some (fork (decide (c5<c10)) (ag [(0:Int)≤c5∧c5.toNat<n,c9] (ag [c9,c9] (fork (decide (k c5.toNat=t)) (ag [-c2≤c8∧c8<c2] (ag [-c2≤c6∧c6<c2] (leaf normal (c4::int i64 c8::c3,[c1])))) (ag [-c2≤c6∧c6<c2] (leaf normal (c4::int i64 (↑c:Int)::c3,[c1])))))) (leaf (exit 0) ([c4,int i64 (↑c:Int),c7,int i64 c10,int i64 c5],[c1]))):=by kernel_rfl
theorem aen {n c i:Nat} {k:Nat→Rat} {t:Rat}:cm T fQ [] 60 AB [part zo [1,1,1]] ⟨aA wM (xT n k c i),[(0,tP t sK)],1⟩=
  some (leaf ret [int i64 (↑c:Int)]):=by kernel_rfl
theorem Xr {n:Nat} {k:Nat→Rat}:aH T fQ [] 60 vY (before mE [1,1,0,1]) ⟨aN 0 [bt k n sJ],[],0⟩=
  let c1:Int:=(↑n:Int);some (ag [(0:Int)≤(0:Int)∧(0:Int)≤c1∧c1≤(2:Int)^47∧c1*(↑(56:Nat):Int)≤(2:Int)^47] (leaf normal ([own 12288 3 0 0,ak 3 n fun i↦rat (k i) 4000,int i64 c1,int i64 (0:Int)],[((12288:Nat),ah.mk true true 3 0 fun x↦rat 0 1)]))):=by kernel_rfl
theorem YY {n i:Nat} {k:Nat→Rat}:aH T fQ [12] 60 vY [part mE [1,1,0,1,0,0]] ⟨aA vY (Eu n k i),[(0,fK i k)],1⟩=
  let c4:Int:=(↑n:Int);let c2:AV:=ak 3 n fun i↦rat (k i) 4000;let c1:Int:=(↑i:Int);let c3:Int:=c1+(1:Int);some (fork (decide (c1<c4)) (ag [(0:Int)≤c1∧c1.toNat<n,(0:Nat)<1] (ag [(0:Nat)<1,(1:Nat)*3≤2^24,(i+1)*((56:Nat)+1)*2≤2^47] (ag [-(2:Int)^63≤c3∧c3<(2:Int)^63] (leaf normal ([own 40961 3 0 (i+1),c2,int i64 c4,int i64 c3],[((40961:Nat),ah.mk true true 3 (i+1) fun i_1↦if i_1<i then rat (k i_1) sK else nth [rat (k c1.toNat+0) (sJ+1+1)] (rat 0 1) (i_1-i+0))]))))) (leaf (exit 0) ([own 0 3 0 i,c2,int i64 c4,int i64 c1],[((0:Nat),ah.mk true true 3 i fun i↦rat (k i) 4096)]))):=by kernel_rfl
theorem T7 {n i:Nat} {k:Nat→Rat}:aH T fQ [] 60 [2] [part mE [1,1,1]] ⟨aA vY (Eu n k i),[(0,fK i k)],1⟩=
  some (leaf ret ([own 0 3 0 i],[((0:Nat),ah.mk true true 3 i fun i↦rat (k i) 4096)])):=by kernel_rfl
theorem WD {k:Nat→Rat} {t:Rat} {i:Nat} (h:k i=t):bT k t (i+1)=bT k t i+1:=by rw[bT,if_pos h]
theorem VO {k:Nat→Rat} {t:Rat} {i:Nat} (h:¬k i=t):bT k t (i+1)=bT k t i:=by rw[bT,if_neg h];rfl
theorem afo {n:Nat} {k:Nat→Rat} {t:Rat} (hn:n<2^40) (K:Nat):aB P sj K [ls k n,.rat t sK] [] (aK (.int .i64 (bT k t n)) []):=by
 refine gO (r:=aK (.int .i64 (bT k t n)) []) hT j5 hm adM rfl (of_decide_eq_true (by kernel_rfl)) rfl [1,1,0,1] (i:=0) (y:=part zo [1,1,0,1,0,0]) (z:=part zo [1,1,1]) (by kernel_rfl) (by kernel_rfl) (by kernel_rfl) (f1:=[]) (f2:=[11,16]) (f3:=[]) 60 wM 1
  (fun i:Nat=>xT n k (bT k t i) i) (fun _=>[(0,tP t sK)]) (fun i=>i≤n) (fun i=>i=n) (fun i=>n-i) (fun _=>⟨⟨_,aef,?_⟩,fun i hi=>⟨_,acj,?_⟩,fun i hi=>⟨_,aen,?_⟩⟩) K []
 ·simp only[aa.all,ax]
  exact⟨0,Nat.zero_le _,[(0,0)],rfl,rfl,rfl,aJ rfl rfl (aE rfl rfl) trivial⟩
 ·have h1:=Nk (k:=k) (t:=t) (n:=i)
  simp only[aa.all,ax,decide_eq_true_eq,decide_eq_false_iff_not,Int.toNat_natCast,Nat.add_zero]
  refine⟨fun h2=>⟨by omega,by omega,fun h3=>⟨by omega,by omega,i+1,by omega,by dsimp only;omega,[(0,0)],rfl,?_,rfl,aJ rfl rfl (aE rfl rfl) trivial⟩,fun h3=>⟨by omega,i+1,by omega,by dsimp only;omega,[(0,0)],rfl,?_,rfl,aJ rfl rfl (aE rfl rfl) trivial⟩⟩,fun h2=>⟨rfl,i,by omega,[(0,0)],rfl,rfl,rfl,aJ rfl rfl (aE rfl rfl) trivial⟩⟩
  ·show _=(xT n k (bT k t (i+1)) (i+1)).map _
   rw[WD h3];rfl
  ·show _=(xT n k (bT k t (i+1)) (i+1)).map _
   rw[VO h3];rfl
 ·subst hi
  simp only[aa.all,ax]
  exact .refl _
abbrev SL:qJ ((Nat×(Nat→Rat))×Rat×Unit):=kC (kL sK) (kC (kO sK) kN)
noncomputable def EG:Spec:=cQ SL (fun a=>.int .i64 (bT a.1.2 a.2.1 a.1.1)) fun a=>[a.1.1<2^40]
theorem QV:∀K args pre r,EG K args pre=some r→aB P sj K args pre r:=cU fun⟨⟨n,k⟩,t,_⟩ K hn=>afo hn K
theorem aiN {args:List AV} {n:Nat} {k:Nat→Rat} {l:List Prop} (ha:ax l→fc (aT []) args [bt k n sJ]) (hn:ax l→n<2^40) (K:Nat):aB P ou K args [] ⟨iM [.own K 3 0 n],[(K,fK n k)],l⟩:=by
 refine NQ hT Ek ha (of_decide_eq_true (by kernel_rfl)) fun need c hk=>?_
 have hn:=hn need
 refine aq.nN hT j5 hm [1,1,0,1] (i:=0) (y:=part mE [1,1,0,1,0,0]) (z:=part mE [1,1,1]) (by kernel_rfl) (by kernel_rfl) (by kernel_rfl) Ek.dst hk (f1:=[]) (f2:=[12]) 60 vY 1 (fun i:Nat=>Eu n k i) (fun i=>[(0,fK i k)])
  (fun i=>i≤n) (fun i=>i=n) (fun i=>n-i) (fun _=>False) ⟨_,Xr,?_⟩ (fun i hi=>⟨_,YY,?_⟩) (fun i hi=>?_) (fun _ _ h=>h.elim)
 ·simp only[aa.all,ax]
  exact⟨by omega,0,Nat.zero_le _,[(0,12288)],rfl,rfl,rfl,bh rfl rfl rfl (fun i hi=>absurd hi (Nat.not_lt_zero i)) trivial⟩
 ·simp only[aa.all,ax,decide_eq_true_eq,decide_eq_false_iff_not,Int.toNat_natCast,Nat.add_zero]
  exact⟨fun h2=>⟨by omega,by omega,by omega,i+1,by omega,by dsimp only;omega,[(0,40961)],rfl,rfl,rfl,bh rfl rfl rfl (fun j hj=>tc (fun _ _=>rfl) (Rat.add_zero _) (Nat.le_refl _) (by decide) hj) trivial⟩,fun h2=>⟨rfl,i,by omega,[(0,0)],rfl,rfl,rfl,bh rfl rfl rfl (fun j hj=>aE rfl rfl) trivial⟩⟩
 ·subst hi
  refine aq.bf hT j5 hm 60 [2] T7 (by kernel_rfl) fun s' hs'=>⟨.inr rfl,[2],_,[.own 0 3 0 i],_,0,_,hs',by kernel_rfl,⟨⟨rfl,cw (by simp[aT,look]) rfl rfl⟩,trivial⟩,rfl,ji rfl fun i hi=>aI rfl⟩
noncomputable def NF:Spec:=sN fun K l=>match l with
 |[v]=>match(kL sJ).read v with
  |some ((n,k),q)=>some ⟨.own K 3 0 n,[(K,fK n k)],q++[n<2^40]⟩
  |none=>none
 |_=>none
theorem SJ:∀K args pre r,NF K args pre=some r→aB P ou K args pre r:=by
 refine DT fun K args r hk hs=>?_
 split at hs
 ·rename_i v
  split at hs
  ·rename_i n k q hv
   simp only[Option.some.injEq]at hs
   subst hs
   exact aiN (fun hn=>Fl hk (by cases v<;>first|rfl|simp[kL,C3]at hv) ⟨(kL sJ).ok hv (dG.1 hn).1,trivial⟩) (fun hn=>(dG (a:=q) (b:=[n<2^40]).1 hn).2) K
  ·simp at hs
 ·simp at hs
end Go.Am.B

/- slices.CompactFunc of numbers; fF.Distinct. -/
namespace Go.Am.B
open Go Go.Am.N AV aa aj IntKind
theorem OI:aO P CO B5 (au B5):=aQ aax (by kernel_rfl) (by kernel_rfl) (by kernel_rfl)
theorem aeK:aO P AE vC (au vC):=aQ agH (by kernel_rfl) (by kernel_rfl) (by kernel_rfl)
noncomputable abbrev tQ:Func:=B5
noncomputable abbrev AI:Code:=au tQ
noncomputable abbrev r6:Code:=part AI [1,1,0,1,0,0]
noncomputable abbrev uE:Code:=part r6 [1,0,0]
noncomputable abbrev pT:Code:=part uE [1,0]
abbrev jA:List Nat:=[4,0,1,5]
abbrev AN (n i:Nat):List AV:=[.nil,.own 0 3 0 n,.func fu [],.int .i64 i]
abbrev BP:List Nat:=[4,0,1,5,28]
abbrev GB (n i:Nat) (b:Bool):List AV:=[.nil,.own 0 3 0 n,.func fu [],.int .i64 i,.bool b]
abbrev wW:List Nat:=[4,0,1,5,6,7]
abbrev uA (n m b j:Nat):List AV:=[.nil,.own 0 3 0 n,.func fu [],.int .i64 m,.own 0 3 b (n-b),.int .i64 j]
theorem aam {n:Nat} {k:Nat→Rat}:aH T fQ [10] 60 jA (before AI [1,1,0,1]) ⟨aN 0 [.own 0 3 0 n,.func fu []],[(0,fK n k)],1⟩=
  let c2:Nat×ah:=((0:Nat),ah.mk true true 3 n fun i↦rat (k i) 4096);let c1:AV:=own 0 3 0 n;some (fork (decide ((↑n:Int)<(2:Int))) (leaf ret ([c1,c1,func fu [],tuple []],[c2])) (leaf normal ([nil,c1,func fu [],int i64 (1:Int)],[c2]))):=by kernel_rfl
theorem TZ {n i:Nat} {k:Nat→Rat}:aH T fQ [15] 60 jA (before r6 [1,0]) ⟨aA jA (AN n i),[(0,fK n k)],1⟩=
  let c1:List AV×aC:=([nil,own 0 3 0 n,func fu [],int i64 (↑i:Int)],[((0:Nat),ah.mk true true 3 n fun i↦rat (k i) 4096)]);some (fork (decide ((↑i:Int)<(↑n:Int))) (leaf normal c1) (leaf (exit 0) c1)):=by kernel_rfl
theorem afe {n i:Nat} {k:Nat→Rat}:aH T fQ [] 60 BP (before uE [1]) ⟨aA jA (AN n i),[(0,fK n k)],1⟩=
  let c4:Int:=(↑i:Int);let c2:Nat:=c4.toNat+0;let c1:Int:=c4-(1:Int);let c3:Nat:=c1.toNat+0;some (ag [(0:Int)≤c4∧c4.toNat<n,c2<n,-(2:Int)^63≤c1∧c1<(2:Int)^63,(0:Int)≤c1∧c1.toNat<n,c3<n] (leaf normal ([nil,own 0 3 0 n,func fu [],int i64 c4,AV.bool (decide (k c2=k c3))],[((0:Nat),ah.mk true true 3 n fun i↦rat (k i) 4096)]))):=by kernel_rfl
theorem aik {n i:Nat} {b:Bool} {k:Nat→Rat}:aH T fQ [] 60 wW (before pT [1,0,1]) ⟨aA BP (GB n i b),[(0,fK n k)],1⟩=
  let c2:Int:=(↑i:Int);let c1:Int:=(↑n:Int);some (ag [(0:Int)≤c2∧c2≤c1∧c1≤c1∧c1≤c1] (leaf normal ([nil,own 0 3 0 n,func fu [],int i64 c2,own 0 3 ((0:Nat)+c2.toNat) (c1.toNat-c2.toNat),int i64 (1:Int)],[((0:Nat),ah.mk true true 3 n fun i↦rat (k i) 4096)]))):=by kernel_rfl
theorem ZU {n m b j:Nat} {k:Nat→Rat}:aH T fQ [35,49] 60 wW [part pT [1,0,1,0,0]] ⟨aA wW (uA n m b j),[(0,fK n k)],1⟩=
  let c11:AV:=func fu [];let c7:AV:=own 0 3 b (n-b);let c6:Nat×ah:=((0:Nat),ah.mk true true 3 n fun i↦rat (k i) 4096);let c5:Int:=(↑m:Int);let c4:AV:=own 0 3 0 n;let c2:Int:=(2:Int)^63;let c1:Int:=(↑j:Int);let c13:Int:=c5+(1:Int);let c12:Prop:=(0:Int)≤c1∧c1.toNat<n-b;let c10:Nat:=c5.toNat+0;let c9:Nat:=c1.toNat+b;let c8:Int:=c1+(1:Int);let c3:Int:=c1-(1:Int);some (fork (decide (c1<(↑(n-b):Int))) (ag [c12,c9<n,-c2≤c3∧c3<c2,(0:Int)≤c3∧c3.toNat<n-b,c3.toNat+b<n] (fork (!decide (k c9=k (c3.toNat+b))) (ag [c12,c9<n,(0:Int)≤c5∧c5.toNat<n,c10<n] (ag [-c2≤c13∧c13<c2] (ag [-c2≤c8∧c8<c2] (leaf normal ([nil,c4,c11,int i64 c13,c7,int i64 c8],[((0:Nat),ah.mk true true 3 n fun j↦rat (bif j==c10 then k c9 else k j) (bif j==c10 then sK else sK))]))))) (ag [-c2≤c8∧c8<c2] (leaf normal ([nil,c4,c11,int i64 c5,c7,int i64 c8],[c6]))))) (leaf (exit 2) ([nil,c4,c11,int i64 c5,c7,int i64 c1],[c6]))):=by kernel_rfl
theorem ai6 {n m b j:Nat} {k:Nat→Rat}:aH T fQ [] 60 jA [part pT [1,1]] ⟨aA wW (uA n m b j),[(0,fK n k)],1⟩=
  let c4:Int:=(↑n:Int);let c2:Int:=(↑m:Int);let c3:Nat:=0+c2.toNat;let c1:Nat:=c3+(c4.toNat-c2.toNat);some (ag [(0:Int)≤c2∧c2≤c4∧c4≤c4∧c4≤c4] (ag [(0:Int)≤(0:Int)∧(0:Int)≤c2∧c2≤c2∧c2≤c4] (leaf ret ([own 0 3 0 (c2.toNat-Int.toNat (0:Int)),own 0 3 0 n,func fu [],int i64 c2],[((0:Nat),ah.mk true true 3 n fun i↦if c3≤i∧i<c1 then rat 0 1 else rat (k i) sK)])))):=by kernel_rfl
theorem acr {n i:Nat} {b:Bool} {k:Nat→Rat}:aH T fQ [] 60 jA [part uE [1,1],part r6 [1,1]] ⟨aA BP (GB n i b),[(0,fK n k)],1⟩=
  let c1:Int:=(↑i:Int)+(1:Int);some (ag [-(2:Int)^63≤c1∧c1<(2:Int)^63] (leaf normal ([nil,own 0 3 0 n,func fu [],int i64 c1],[((0:Nat),ah.mk true true 3 n fun i↦rat (k i) 4096)]))):=by kernel_rfl
theorem WO {n i:Nat} {k:Nat→Rat}:aH T fQ [] 60 jA [part AI [1,1,1]] ⟨aA jA (AN n i),[(0,fK n k)],1⟩=
  let c1:AV:=own 0 3 0 n;some (leaf ret ([c1,c1,func fu [],int i64 (↑i:Int)],[((0:Nat),ah.mk true true 3 n fun i↦rat (k i) 4096)])):=by kernel_rfl
def lD (k:Nat→Rat) (n i:Nat):Rat:=if i<bX k n then dD k n i else 0
theorem ahV {k:Nat→Rat} {n:Nat} (h:∀j,j<n→gm k j) {i:Nat} (hi:i<n):bX k n=n∧lD k n i=k i:=by
 obtain⟨h1,h2⟩:=Pz h
 unfold lD
 rw[h1,if_pos hi]
 exact⟨rfl,h2 i hi⟩
theorem Xc {kk n:Nat} {k:Nat→Rat} (hn:n<2^40) (c:Ctx) (hk:Kept [0] c):aq P c tQ.ntmps AI ⟨aN 0 [.own 0 3 0 n,.func fu []],[(0,fK n k)],1⟩ (H9 tQ kk [.own kk 3 0 (bX k n)] (fK n (lD k n))):=by
 have hall:∀{L:List Nat} {us:List AV},(∀j,j<n→gm k j)→kP (aA L us) tQ.results.toList=some [.own 0 3 0 n]→C7 tQ kk [.own kk 3 0 (bX k n)] (fK n (lD k n)) L (us,[(0,fK n k)]):=fun h1 h2=>
  ⟨_,_,h2,⟨⟨rfl,cw (by simp[aT,look]) rfl (Pz h1).1.symm⟩,trivial⟩,oJ,rfl,rfl,rfl,rfl,fun i hi=>by
   show fX _ (.rat (k i) sK) (.rat (lD k n i) sK)
   rw[(ahV h1 hi).2];exact aI rfl⟩
 refine aq.yY hT j5 hm [1,1,0,1] (i:=0) (y:=r6) (z:=part AI [1,1,1]) (by kernel_rfl) (by kernel_rfl) (by kernel_rfl) OI.dst hk (f1:=[10]) 60 jA 1 (fun i:Nat=>AN n i) (fun _=>[(0,fK n k)]) (fun i=>1≤i∧i≤n∧∀j,j<i→gm k j) (fun i=>i=n∧∀j,j<n→gm k j) (fun i=>n-i)
  (C7 tQ kk [.own kk 3 0 (bX k n)] (fK n (lD k n)) jA) ⟨_,aam,?_⟩ (fun i ⟨h1,h2,h3⟩=>?_) (fun i ⟨h1,h2⟩=>?_) (fun v s' hv hs'=>hv.fin hs')
 ·simp only[aa.all,ax,decide_eq_true_eq,decide_eq_false_iff_not]
  exact⟨fun h=>hall (fun j hj=>.inl (by omega)) (by kernel_rfl),fun h=>⟨1,⟨by omega,by omega,fun j hj=>.inl (by omega)⟩,[(0,0)],rfl,rfl,rfl,bh rfl rfl rfl (fun x hx=>aE rfl rfl) trivial⟩⟩
 ·refine aq.qi hT j5 hm (y:=r6) (x1:=uE) (zb:=part r6 [1,1]) [1,0] (j:=1) (by kernel_rfl) (by kernel_rfl) (by kernel_rfl) (by kernel_rfl) hk (f1:=[15]) 60 jA 1 (fun _:Unit=>AN n i) (fun _=>[(0,fK n k)]) (fun _=>i<n) ⟨_,TZ,?_⟩ (fun _ hlt=>?_)
  ·simp only[aa.all,ax,decide_eq_true_eq,decide_eq_false_iff_not]
   exact⟨fun h=>⟨(),by omega,[(0,0)],rfl,rfl,rfl,bh rfl rfl rfl (fun x hx=>aE rfl rfl) trivial⟩,fun h s' hs'=>⟨rfl,i,⟨by omega,fun j hj=>h3 j (by omega)⟩,dU.le ⟨[(0,0)],rfl,rfl,rfl,bh rfl rfl rfl (fun x hx=>aE rfl rfl) trivial⟩ hs' hk⟩⟩
  refine aq.branch hT j5 hm (x:=uE) (u:=pT) (v:=part uE [1,1]) (b:=.tmp 28) [1] (by kernel_rfl) (by kernel_rfl) (by kernel_rfl) (by kernel_rfl) hk (f1:=[]) 60 BP 1 (fun _:Unit=>GB n i (decide (k i=k (i-1)))) (fun _=>[(0,fK n k)]) (fun _=>True) ⟨_,afe,?_⟩ (fun _ _=>⟨decide (k i=k (i-1)),rfl,fun hb=>?_,fun hb=>?_⟩)
  ·simp only[aa.all,ax]
   simp only[Int.toNat_natCast,Nat.add_zero,show((i:Int)-1).toNat=i-1 by omega]
   exact⟨⟨⟨by omega,by omega⟩,by omega,by omega,⟨by omega,by omega⟩,by omega⟩,(),trivial,[(0,0)],rfl,rfl,rfl,bh rfl rfl rfl (fun x hx=>aE rfl rfl) trivial⟩
  ·have hold:¬gm k i:=fun h=>by
    rcases h with h|h
    ·omega
    ·exact h (of_decide_eq_true hb)
   obtain⟨s1,s2⟩:=Yx h3 hold
   refine aq.xl hT j5 hm (x:=pT) [1,0,1] (i:=2) (y:=part pT [1,0,1,0,0]) (by kernel_rfl) (by kernel_rfl) (by kernel_rfl) hk (f1:=[]) (f2:=[35,49]) 60 wW 1 (fun j:Nat=>uA n (bX k (i+j)) i j) (fun j=>[(0,fK n (ir k (i+j)))]) (fun j=>1≤j∧i+j≤n) (fun j=>i+j=n) (fun j=>n-j) (fun _=>False) ⟨_,aik,?_⟩ (fun j ⟨j1,j2⟩=>⟨_,ZU,?_⟩) (fun j s' hj hle=>?_) (fun _ _ h=>h.elim)
   ·simp only[aa.all,ax]
    simp only[Int.toNat_natCast,Nat.zero_add]
    refine⟨by omega,1,⟨by omega,by omega⟩,[(0,0)],rfl,?_,rfl,bh rfl rfl rfl (fun x hx=>aE rfl ?_) trivial⟩
    ·show _=(uA n (bX k (i+1)) i 1).map _
     rw[s1];rfl
    ·rw[s2]
   ·simp only[aa.all,ax,decide_eq_true_eq,decide_eq_false_iff_not]
    have hd:=JK hold (l:=i+j) (by omega)
    have e1:ir k (i+j) (j+i)=k (i+j):=by rw[Nat.add_comm j i];exact NW (by omega)
    have e2:ir k (i+j) (((j:Int)-1).toNat+i)=k (i+j-1):=by rw[show((j:Int)-1).toNat+i=i+j-1 by omega];exact NW (by omega)
    simp only[Int.toNat_natCast,Nat.add_zero,e1,e2,Bool.not_eq_true',Bool.not_eq_false',decide_eq_true_eq,decide_eq_false_iff_not]
    refine⟨fun h=>⟨by omega,fun hne=>⟨by omega,by omega,by omega,j+1,by omega,by dsimp only;omega,[(0,0)],rfl,?_,rfl,bh rfl rfl rfl (fun x hx=>?_) trivial⟩,fun heq=>⟨by omega,j+1,by omega,by dsimp only;omega,[(0,0)],rfl,?_,rfl,bh rfl rfl rfl (fun x hx=>?_) trivial⟩⟩,fun h=>⟨rfl,j,by omega,[(0,0)],rfl,rfl,rfl,bh rfl rfl rfl (fun x hx=>aE rfl rfl) trivial⟩⟩
    ·show _=(uA n (bX k (i+j+1)) i (j+1)).map _
     rw[ab3 (l:=i+j) (.inr hne)];rfl
    ·refine .inr ⟨rfl,bS ?_ (by cases (x==bX k (i+j))<;>exact Nat.le_refl _)⟩
     show _=ir k (i+j+1) x
     rw[ahc (.inr hne) (by omega)]
     by_cases hx2:x=bX k (i+j)
     ·subst hx2;simp
     ·have:(x==bX k (i+j))=false:=by simpa using hx2
      rw[this,if_neg hx2];rfl
    ·have hold2:¬gm k (i+j):=fun h=>by
      rcases h with h|h
      ·omega
      ·exact h heq
     show _=(uA n (bX k (i+j+1)) i (j+1)).map _
     rw[I3 hold2];rfl
    ·have hold2:¬gm k (i+j):=fun h=>by
      rcases h with h|h
      ·omega
      ·exact h heq
     exact aE rfl (by show _=AV.rat (ir k (i+j+1) x) sK;rw[(adt hold2).2])
   ·rw[show behind pT [1,0,1]=[part pT [1,1]]from by kernel_rfl]
    refine aD.weak rfl hle (aD.bf hT j5 hm 60 jA ai6 (by kernel_rfl) ?_)
    simp only[aa.all,ax]
    rw[hj]
    have hd:=rm (k:=k) (n:=n)
    simp only[Int.toNat_natCast,Nat.zero_add]
    refine⟨by omega,by omega,fun s' hs'=>⟨_,⟨[.own 0 3 0 (bX k n)],⟨true,true,3,n,fun i=>if bX k n≤i∧i<bX k n+(n-bX k n)then .rat 0 1 else .rat (ir k n i) sK⟩,by kernel_rfl,⟨⟨rfl,cw (by simp[aT,look]) rfl rfl⟩,trivial⟩,rfl,⟨rfl,rfl,rfl,rfl,fun x hx=>?_⟩⟩,hs'⟩⟩
    have hx:x<n:=hx
    refine lZ (xI rfl rfl) ?_
    show bB (if _ then _ else _) (.rat (lD k n x) sK)
    unfold lD
    by_cases h:x<bX k n
    ·rw[if_neg (by omega),if_pos h]
     exact dc (by unfold ir;rw[if_pos h])
    ·rw[if_pos (by omega),if_neg h]
     exact fC (by decide)
  ·have hnew:gm k i:=.inr (of_decide_eq_false hb)
   refine aq.tail (fun s' hh=>by have:=hh.1;omega) (aD.bf hT j5 hm 60 jA acr (by kernel_rfl) ?_)
   simp only[aa.all,ax]
   refine⟨by omega,fun s' hs'=>⟨i+1,⟨by omega,by omega,fun j hj=>?_⟩,by dsimp only;omega,dU.le ⟨[(0,0)],rfl,rfl,rfl,bh rfl rfl rfl (fun x hx=>aE rfl rfl) trivial⟩ hs' hk⟩⟩
   by_cases he:j=i
   ·subst he;exact hnew
   ·exact h3 j (by omega)
 ·subst h1
  refine aq.bf hT j5 hm 60 jA WO (by kernel_rfl) ?_
  simp only[aa.all,ax]
  exact fun s' hs'=>(hall h2 (by kernel_rfl)).fin hs'
def HD (f:Nat→AV) (n s:Nat):Prop:=∀i,i<n→keys (f i)=[]∧bB (f i) (.rat (aS (f i)) s)
theorem ak0 {k:Nat→Rat} {n s s':Nat} (h:s≤s'):HD (fun i=>.rat (k i) s) n s':=fun _ _=>⟨rfl,fC h⟩
def HJ:Spec:=fun _ args pre=>match args,pre with
 |[.own k 3 0 n,.func g []],[(k',⟨true,true,3,m,f⟩)]=>match Nat.beq g fu&&k'==k with
  |true=>some ⟨iM [.own k 3 0 (bX (fun i=>aS (f i)) n)],[(k,fK n (lD (fun i=>aS (f i)) n))],[m=n,HD f n sK,n<2^40]⟩
  |false=>none
 |_,_=>none
theorem Ty:∀K args pre r,HJ K args pre=some r→aB P CO K args pre r:=by
 intro K args pre r h
 unfold HJ at h
 split at h
 ·rename_i k n g k' m f
  split at h
  ·rename_i hc
   simp only[Bool.and_eq_true,beq_iff_eq]at hc
   obtain⟨h1,h2⟩:=hc
   have h1:=Nat.eq_of_beq_eq_true h1
   subst h1 h2
   simp only[Option.some.injEq]at h
   subst h
   intro need
   have h0:=need
   obtain⟨rfl,n1,n2⟩:=need
   exact aij hT OI (rest:=[.func fu []]) (o2:=⟨true,true,3,m,f⟩) (o:=fK m fun i=>aS (f i)) rfl rfl (of_decide_eq_true (by kernel_rfl)) (fun ρ=>⟨rfl,rfl,rfl,rfl,fun i hi=>lZ (n1 i hi).1 (n1 i hi).2⟩) (fun _ c hk=>Xc n2 c hk) K h0
  ·simp at h
 ·simp at h
end Go.Am.B

/- fF.Distinct, ref08.Distinct, slices.IsSortedFunc of numbers. -/
namespace Go.Am.B
open Go Go.Am.N AV aa aj IntKind
theorem acX:aO P wg x5 (au x5):=aQ ad9 (by kernel_rfl) (by kernel_rfl) (by kernel_rfl)
noncomputable abbrev yW:Code:=au x5
abbrev wK:List Nat:=[4,0,1,5]
abbrev FP (n:Nat) (k:Nat→Rat) (i:Nat):List AV:=[.bool false,ls k n,.func jB [],.int .i64 ((i:Int)-1)]
noncomputable def Ka:aR:=[(ou,NF),(CO,HJ)]
theorem aeR {n:Nat} {k:Nat→Rat}:aH T fQ [] 60 wK (before yW [1,0,1]) ⟨aN 0 [ls k n,.func jB []],[],0⟩=
  let c1:Int:=(↑n:Int)-(1:Int);some (ag [-(2:Int)^63≤c1∧c1<(2:Int)^63] (leaf normal ([AV.bool false,ak 3 n fun i↦rat (k i) 4096,func jB [],int i64 c1],[]))):=by kernel_rfl
theorem Zl {n i:Nat} {k:Nat→Rat}:aH T fQ [10,24] 60 wK [part yW [1,0,1,0,0]] ⟨aA wK (FP n k i),[],1⟩=
  let c5:AV:=ak 3 n fun i↦rat (k i) 4096;let c4:Int:=(2:Int)^63;let c1:Int:=(↑i:Int)-(1:Int);let c3:List AV:=[AV.bool false,c5,func jB [],int i64 c1];let c2:Int:=c1-(1:Int);let c6:Int:=fe (k c1.toNat) (k c2.toNat);some (fork (decide (c1>(0:Int))) (ag [(0:Int)≤c1∧c1.toNat<n,-c4≤c2∧c2<c4,(0:Int)≤c2∧c2.toNat<n] (fork (decide (c6<(0:Int))) (leaf ret (c3,[])) (ag [-c4≤c2∧c2<c4] (leaf normal ([AV.bool false,c5,func jB [],int i64 c2],[]))))) (leaf (exit 0) (c3,[]))):=by kernel_rfl
theorem ZE {n i:Nat} {k:Nat→Rat}:cm T fQ [] 60 x5 [part yW [1,1]] ⟨aA wK (FP n k i),[],1⟩=
  some (leaf ret [AV.bool true]):=by kernel_rfl
theorem XS {n:Nat} {k:Nat→Rat}:bF T Ka [] 60 vC (au vC) ⟨aN 0 [bt k n sJ],[],0⟩=
  let c1:Prop:=n<2^40;some (ag [bG (fun i↦rat (k i) sJ) n sJ,c1,n=n,HD (fun i↦rat (aS (rat (k i) sJ)) sK) n sK,c1] (leaf ret [ak 3 (bX (fun i↦aS (rat (aS (rat (k i) sJ)) sK)) n) fun i↦rat (lD (fun i↦aS (rat (aS (rat (k i) sJ)) sK)) n (i+0)) 4096])):=by kernel_rfl
def kF (g:FuncId):Kind Unit:=⟨fun v=>match v with
 |.func f []=>match Nat.beq f g with
  |true=>some ((),[])
  |false=>none
 |_=>none,fun _=>.func g [],fun {v a q} h _=>by
  split at h
  ·split at h
   ·rename_i hb
    rw[Nat.eq_of_beq_eq_true hb];exact .refl _
   ·simp at h
  ·simp at h⟩
noncomputable def oU (p:Prop):Bool:=@decide p (Classical.propDecidable p)
theorem WW {p:Prop} (h:p):oU p=true:=@decide_eq_true p (Classical.propDecidable p) h
theorem abJ {p:Prop} (h:¬p):oU p=false:=@decide_eq_false p (Classical.propDecidable p) h
theorem ZV {p:Prop} (h:oU p=true):p:=@of_decide_eq_true p (Classical.propDecidable p) h
theorem TH {p:Prop} (h:oU p=false):¬p:=@of_decide_eq_false p (Classical.propDecidable p) h
theorem Wf {n:Nat} {k:Nat→Rat} (hn:n<2^40) (K:Nat):aB P wg K [ls k n,.func jB []] [] (aK (.bool (oU (qR n k))) []):=by
 refine gO (r:=aK (.bool (oU (qR n k))) []) hT j5 hm acX rfl (of_decide_eq_true (by kernel_rfl)) rfl [1,0,1] (i:=0) (y:=part yW [1,0,1,0,0]) (z:=part yW [1,1]) (by kernel_rfl) (by kernel_rfl) (by kernel_rfl) (f1:=[]) (f2:=[10,24]) (f3:=[]) 60 wK 1
  (fun i:Nat=>FP n k i) (fun _=>[]) (fun i=>i≤n∧∀j,i≤j+1→j+1<n→k j≤k (j+1)) (fun _=>qR n k) (fun i=>i) (fun _=>⟨⟨_,aeR,?_⟩,fun i ⟨h1,h2⟩=>⟨_,Zl,?_⟩,fun i hi=>⟨_,ZE,?_⟩⟩) K []
 ·simp only[aa.all,ax]
  exact⟨by omega,n,⟨Nat.le_refl _,fun j h1 h2=>by omega⟩,dU.vals rfl⟩
 ·simp only[aa.all,ax,decide_eq_true_eq,decide_eq_false_iff_not,oZ]
  refine⟨fun h=>⟨by omega,fun hlt=>⟨[.bool false],by kernel_rfl,fV ?_⟩,fun hle=>⟨by omega,i-1,⟨by omega,fun j g1 g2=>?_⟩,by dsimp only;omega,[],rfl,?_,rfl,trivial⟩⟩,fun h=>⟨rfl,i,fun j hj=>h2 j (by omega) hj,[],rfl,rfl,rfl,trivial⟩⟩
  ·refine(abJ fun hs=>?_).symm
   have:=hs (i-2) (by omega)
   rw[show((i:Int)-1).toNat=i-2+1 by omega,show((i:Int)-1-1).toNat=i-2 by omega]at hlt
   grind
  ·by_cases he:j+2=i
   ·rw[show((i:Int)-1).toNat=j+1 by omega,show((i:Int)-1-1).toNat=j by omega]at hle
    grind
   ·exact h2 j (by omega) g2
  ·show _=[_,_,_,AV.int .i64 (((i-1:Nat):Int)-1)]
   rw[show((i-1:Nat):Int)-1=(i:Int)-1-1 by omega];rfl
 ·simp only[aa.all,ax]
  exact fV (WW hi).symm
noncomputable def PO:Spec:=cQ (kC (kL sK) (kC (kF jB) kN)) (fun a=>.bool (oU (qR a.1.1 a.1.2))) fun a=>[a.1.1<2^40]
theorem Te:∀K args pre r,PO K args pre=some r→aB P wg K args pre r:=cU fun⟨⟨n,k⟩,_,_⟩ K hn=>Wf hn K
noncomputable def HH:Spec:=cQ (kC (kL sJ) kN) (fun a=>ls (dD a.1.2 a.1.1) (bX a.1.2 a.1.1)) fun a=>[a.1.1<2^40]
theorem afO:aY P Ka:=aG SJ (aG Ty bk)
theorem Ld:∀K args pre r,HH K args pre=some r→aB P AE K args pre r:=cU fun⟨⟨n,k⟩,_⟩ K hn=>by
 have hn:n<2^40:=hn
 refine bJ (r:=aK (ls (dD k n) (bX k n)) []) hT afO hm aeK rfl (of_decide_eq_true (by kernel_rfl)) rfl 60 XS (fun _=>?_) K []
 simp only[aa.all,ax]
 exact⟨⟨cM (Nat.le_refl _),hn,trivial,ak0 (Nat.le_refl _),hn⟩,p5 rfl fun i hi=>by
  show AV.rat (lD k n (i+0)) sK=_
  have hi:i<bX k n:=hi
  rw[Nat.add_zero];unfold lD;rw[if_pos hi]⟩
end Go.Am.B
