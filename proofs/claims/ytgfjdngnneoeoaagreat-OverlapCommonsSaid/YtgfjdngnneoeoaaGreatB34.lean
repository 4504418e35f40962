/- aU by the shape of the arguments: numbers, points, planes, maps. -/
import Derived.Test.YtgfjdngnneoeoaaGreatB33
set_option linter.unusedVariables false
namespace Go.Am.B
open Go Go.Am.N AV
@[ext] structure V3 where
 x:Rat
 y:Rat
 z:Rat
structure Pl where
 n:V3
 d:Rat
structure M3 where
 a:V3
 b:V3
 c:V3
structure Mp where
 m:M3
 t:V3
abbrev rA (q:Rat) (n:Nat):AV:=.rat q n
abbrev vA (v:V3) (n:Nat):AV:=.agg [.rat v.x n,.rat v.y n,.rat v.z n]
abbrev aK (p:Pl) (n:Nat):AV:=.agg [vA p.n n,.rat p.d n]
abbrev yq (m:M3) (n:Nat):AV:=.agg [vA m.a n,vA m.b n,vA m.c n]
abbrev ng (m:Mp) (n:Nat):AV:=.agg [yq m.m n,vA m.t n]
theorem bI {q r:Rat} {n k:Nat} (h:q=r) (hk:n<=k):bg (.rat q n) (.rat r k):=h▸fC hk
theorem oy {u v:V3} {n k:Nat} (h:u=v) (hk:n<=k):bg (vA u n) (vA v k):=
 h▸cz ⟨bI rfl hk,bI rfl hk,bI rfl hk,trivial⟩
structure Kind (α:Type) where
 read:AV->Option (α×List Prop)
 make:α->AV
 ok:∀{v:AV} {a:α} {q:List Prop},read v=some (a,q)->au q->bg v (make a)
def ig:AV->Option (Rat×Nat)
 |.rat q n=>some (q,n)
 |.agg [.bool false,.mag 0,.mag 0]=>some (0,1)
 |_=>none
theorem iS {v:AV} {a:Rat×Nat} (h:ig v=some a):bg v (rA a.1 a.2):=by
 unfold ig at h
 split at h
 ·simp only[ax]at h;subst h;exact .refl _
 ·simp only[ax]at h;subst h;exact mT
 ·simp at h
def oO:AV->Option ((V3×Nat)×List Prop)
 |.agg [x,y,z]=>match ig x,ig y,ig z with
  |some (x,a),some (y,b),some (z,c)=>some ((⟨x,y,z⟩,a),[b<=a,c<=a])
  |_,_,_=>none
 |_=>none
theorem vM {v:AV} {a:V3×Nat} {q:List Prop} (h:oO v=some (a,q)) (hq:au q):bg v (vA a.1 a.2):=by
 unfold oO at h
 split at h
 ·split at h
  ·rename_i h1 h2 h3
   simp only[ax,Prod.mk.injEq]at h
   obtain⟨rfl,rfl⟩:=h
   exact cz ⟨iS h1,(iS h2).trans (bI rfl hq.1),(iS h3).trans (bI rfl hq.2),trivial⟩
  ·simp at h
 ·simp at h
def BL:AV->Option ((M3×Nat)×List Prop)
 |.agg [x,y,z]=>match oO x,oO y,oO z with
  |some ((x,a),p),some ((y,b),q),some ((z,c),r)=>some ((⟨x,y,z⟩,a),[b<=a,c<=a]++(p++(q++r)))
  |_,_,_=>none
 |_=>none
theorem agr {v:AV} {a:M3×Nat} {q:List Prop} (h:BL v=some (a,q)) (hq:au q):bg v (yq a.1 a.2):=by
 unfold BL at h
 split at h
 ·split at h
  ·rename_i h1 h2 h3
   simp only[ax,Prod.mk.injEq]at h
   obtain⟨rfl,rfl⟩:=h
   obtain⟨q1,q2⟩:=dP.1 hq
   obtain⟨q2,q3⟩:=dP.1 q2
   obtain⟨q3,q4⟩:=dP.1 q3
   exact cz ⟨vM h1 q2,(vM h2 q3).trans (oy rfl q1.1),(vM h3 q4).trans (oy rfl q1.2),trivial⟩
  ·simp at h
 ·simp at h
theorem EU {u v:M3} {n k:Nat} (h:u=v) (hk:n<=k):bg (yq u n) (yq v k):=
 h▸cz ⟨oy rfl hk,oy rfl hk,oy rfl hk,trivial⟩
def C1:AV->Option ((Mp×Nat)×List Prop)
 |.agg [v,d]=>match BL v,oO d with
  |some ((v,a),p),some ((d,b),q)=>some ((⟨v,d⟩,max a b),p++q)
  |_,_=>none
 |_=>none
theorem aaB {v:AV} {a:Mp×Nat} {q:List Prop} (h:C1 v=some (a,q)) (hq:au q):bg v (ng a.1 a.2):=by
 unfold C1 at h
 split at h
 ·split at h
  ·rename_i h1 h2
   simp only[ax,Prod.mk.injEq]at h
   obtain⟨rfl,rfl⟩:=h
   obtain⟨q1,q2⟩:=dP.1 hq
   exact cz ⟨(agr h1 q1).trans (EU rfl (by simp only;omega)),(vM h2 q2).trans (oy rfl (by simp only;omega)),trivial⟩
  ·simp at h
 ·simp at h
theorem SX {u v:Pl} {n k:Nat} (h:u=v) (hk:n<=k):bg (aK u n) (aK v k):=
 h▸cz ⟨oy rfl hk,bI rfl hk,trivial⟩
theorem Uu {u v:Mp} {n k:Nat} (h:u=v) (hk:n<=k):bg (ng u n) (ng v k):=
 h▸cz ⟨EU rfl hk,oy rfl hk,trivial⟩
def DT (v:AV):Option ((Rat×Nat)×List Prop):=match ig v with
 |some a=>some (a,[])
 |none=>none
theorem XF {v:AV} {a:Rat×Nat} {q:List Prop} (h:DT v=some (a,q)) (_:au q):bg v (rA a.1 a.2):=by
 unfold DT at h
 split at h
 ·rename_i h1
  simp only[ax,Prod.mk.injEq]at h
  obtain⟨rfl,rfl⟩:=h
  exact iS h1
 ·simp at h
def CF:AV->Option (Int×List Prop)
 |.int .i64 n=>some (n,[])
 |_=>none
theorem acs {v:AV} {a:Int} {q:List Prop} (h:CF v=some (a,q)) (_:au q):bg v (.int .i64 a):=by
 unfold CF at h
 split at h
 ·simp only[ax,Prod.mk.injEq]at h
  obtain⟨rfl,rfl⟩:=h
  exact .refl _
 ·simp at h
def kR:Kind (Rat×Nat):=⟨DT,fun a=>rA a.1 a.2,XF⟩
def kV:Kind (V3×Nat):=⟨oO,fun a=>vA a.1 a.2,vM⟩
def kI:Kind Int:=⟨CF,fun a=>.int .i64 a,acs⟩
section specs
variable {α β γ δ:Type} {f:FuncId}
def wI (k:Kind α) (g:α->AV) (need:α->List Prop):Spec:=bY fun l=>match l with
 |[x]=>match k.read x with
  |some (a,p)=>some (aI (g a) (p++need a))
  |none=>none
 |_=>none
theorem xN {k:Kind α} {g:α->AV} {need:α->List Prop} (h:∀a K,au (need a)->aO P f K [k.make a] [] (aI (g a) [])):aY P (wI k g need) f:=by
 refine cJ fun K args r hk hs _=>?_
 split at hs
 ·split at hs
  ·rename_i h1
   simp only[ax]at hs
   subst hs
   intro hn
   obtain⟨n1,hn⟩:=dP.1 hn
   exact eW (h _ K hn) hk ⟨k.ok h1 n1,trivial⟩ [] trivial
  ·simp at hs
 ·simp at hs
def fS (k:Kind α) (k2:Kind β) (g:α->β->AV) (need:α->β->List Prop):Spec:=bY fun l=>match l with
 |[x,y]=>match k.read x,k2.read y with
  |some (a,p),some (b,q)=>some (aI (g a b) (p++(q++need a b)))
  |_,_=>none
 |_=>none
theorem fY {k:Kind α} {k2:Kind β} {g:α->β->AV} {need:α->β->List Prop} (h:∀a b K,au (need a b)->aO P f K [k.make a,k2.make b] [] (aI (g a b) [])):aY P (fS k k2 g need) f:=by
 refine cJ fun K args r hk hs _=>?_
 split at hs
 ·split at hs
  ·rename_i h1 h2
   simp only[ax]at hs
   subst hs
   intro hn
   obtain⟨n1,hn⟩:=dP.1 hn
   obtain⟨n2,hn⟩:=dP.1 hn
   exact eW (h _ _ K hn) hk ⟨k.ok h1 n1,k2.ok h2 n2,trivial⟩ [] trivial
  ·simp at hs
 ·simp at hs
end specs
def oe (a b:Rat×Nat):List Prop:=[a.2<2^42,b.2<2^42]
def oG (a b:Rat×Nat):List Prop:=[a.2<2^41,b.2<2^41]
def zU (a b:Rat×Nat):AV:=rA (a.1+b.1) (a.2+b.2+1)
def zE (a b:Rat×Nat):AV:=rA (a.1-b.1) (a.2+b.2+1)
def zg (a b:Rat×Nat):AV:=rA (a.1*b.1) (a.2+b.2)
def sZ (a b:Rat×Nat):AV:=.tuple [rA (a.1/b.1) (a.2+b.2),.int .i64 (if b.1=0 then 3 else 0)]
def Tv (a b:Rat×Nat):AV:=rA (bW a.1 b.1) (max a.2 b.2)
def U2 (a b:Rat×Nat):AV:=rA (bX a.1 b.1) (max a.2 b.2)
def xH (a b:Rat×Nat):AV:=.int .i64 (cZ a.1 b.1)
def rR (a b:Rat×Nat):AV:=.bool (decide (a.1=b.1))
def xK (a:Rat×Nat):AV:=.int .i64 (eE a.1)
abbrev Cx:FuncId×Spec:=(34,IZ)
def eO:aU:=[(91,fS kR kR zU oe),(38,fS kR kR zE oe),(92,fS kR kR zg oe),(35,fS kR kR rR oe),(79,fS kR kR xH oe),(84,wI kR xK fun a=>[a.2<2^42]),Cx]
def ki:aU:=[(69,fS kR kR zU oG),(68,fS kR kR zE oG),(57,fS kR kR zg oG),(47,fS kR kR rR oG),(96,fS kR kR xH oG),(143,wI kR xK fun a=>[a.2<2^41]),(20,yO)]
theorem PJ:aY P Cx.2 Cx.1:=Pe
theorem fq:aZ P eO:=aE (fY fun _ _ K hn=>MI hn.1 hn.2 K) (aE (fY fun _ _ K hn=>GJ hn.1 hn.2 K) (aE (fY fun _ _ K hn=>Lv hn.1 hn.2 K)
 (aE (fY fun _ _ K hn=>Bu (Nat.lt_trans hn.1 aa) (Nat.lt_trans hn.2 aa) K []) (aE (fY fun _ _ K hn=>Aw hn.1 hn.2 K []) (aE (xN fun _ K hn=>B4 (Nat.lt_trans hn aa) K []) (aE PJ bA))))))
theorem lH:aZ P ki:=aE (fY fun _ _ K hn=>DJ hn.1 hn.2 K) (aE (fY fun _ _ K hn=>Kt hn.1 hn.2 K) (aE (fY fun _ _ K hn=>Fe hn.1 hn.2 K)
 (aE (fY fun _ _ K hn=>B3 (Nat.lt_trans hn.1 aa) (Nat.lt_trans hn.2 aa) K []) (aE (fY fun _ _ K hn=>IW hn.1 hn.2 K) (aE (xN fun _ K _=>BI K []) (aE B5 bA))))))
end Go.Am.B
