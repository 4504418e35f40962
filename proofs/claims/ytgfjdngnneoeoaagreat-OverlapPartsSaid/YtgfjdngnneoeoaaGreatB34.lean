/- aV by the shape of the arguments: numbers, points, planes, maps. -/
import Derived.Test.YtgfjdngnneoeoaaGreatB33
set_option linter.unusedVariables false
namespace Go.Am.B
open Go Go.Am.N AV
@[ext] structure V3 where
 x:Rat
 y:Rat
 z:Rat
structure Pl where
 n:V3
 d:Rat
structure M3 where
 a:V3
 b:V3
 c:V3
structure Mp where
 m:M3
 t:V3
abbrev rA (q:Rat) (n:Nat):AV:=.rat q n
abbrev vA (v:V3) (n:Nat):AV:=.agg [.rat v.x n,.rat v.y n,.rat v.z n]
abbrev aJ (p:Pl) (n:Nat):AV:=.agg [vA p.n n,.rat p.d n]
abbrev zY (m:M3) (n:Nat):AV:=.agg [vA m.a n,vA m.b n,vA m.c n]
abbrev mT (m:Mp) (n:Nat):AV:=.agg [zY m.m n,vA m.t n]
theorem bC {q r:Rat} {n k:Nat} (h:q=r) (hk:n<=k):bp (.rat q n) (.rat r k):=h▸eE hk
theorem oI {u v:V3} {n k:Nat} (h:u=v) (hk:n<=k):bp (vA u n) (vA v k):=
 h▸cj ⟨bC rfl hk,bC rfl hk,bC rfl hk,trivial⟩
structure Kind (α:Type) where
 read:AV->Option (α×List Prop)
 make:α->AV
 ok:∀{v:AV} {a:α} {q:List Prop},read v=some (a,q)->au q->bp v (make a)
def iD:AV->Option (Rat×Nat)
 |.rat q n=>some (q,n)
 |.agg [.bool false,.mag 0,.mag 0]=>some (0,1)
 |_=>none
theorem jf {v:AV} {a:Rat×Nat} (h:iD v=some a):bp v (rA a.1 a.2):=by
 unfold iD at h
 split at h
 ·simp only[ax]at h;subst h;exact .refl _
 ·simp only[ax]at h;subst h;exact k9
 ·simp at h
def pH:AV->Option ((V3×Nat)×List Prop)
 |.agg [x,y,z]=>match iD x,iD y,iD z with
  |some (x,a),some (y,b),some (z,c)=>some ((⟨x,y,z⟩,a),[b<=a,c<=a])
  |_,_,_=>none
 |_=>none
theorem v5 {v:AV} {a:V3×Nat} {q:List Prop} (h:pH v=some (a,q)) (hq:au q):bp v (vA a.1 a.2):=by
 unfold pH at h
 split at h
 ·split at h
  ·rename_i h1 h2 h3
   simp only[ax,Prod.mk.injEq]at h
   obtain⟨rfl,rfl⟩:=h
   exact cj ⟨jf h1,(jf h2).trans (bC rfl hq.1),(jf h3).trans (bC rfl hq.2),trivial⟩
  ·simp at h
 ·simp at h
def C8:AV->Option ((M3×Nat)×List Prop)
 |.agg [x,y,z]=>match pH x,pH y,pH z with
  |some ((x,a),p),some ((y,b),q),some ((z,c),r)=>some ((⟨x,y,z⟩,a),[b<=a,c<=a]++(p++(q++r)))
  |_,_,_=>none
 |_=>none
theorem Vi {v:AV} {a:M3×Nat} {q:List Prop} (h:C8 v=some (a,q)) (hq:au q):bp v (zY a.1 a.2):=by
 unfold C8 at h
 split at h
 ·split at h
  ·rename_i h1 h2 h3
   simp only[ax,Prod.mk.injEq]at h
   obtain⟨rfl,rfl⟩:=h
   obtain⟨q1,q2⟩:=dN.1 hq
   obtain⟨q2,q3⟩:=dN.1 q2
   obtain⟨q3,q4⟩:=dN.1 q3
   exact cj ⟨v5 h1 q2,(v5 h2 q3).trans (oI rfl q1.1),(v5 h3 q4).trans (oI rfl q1.2),trivial⟩
  ·simp at h
 ·simp at h
theorem KJ {u v:M3} {n k:Nat} (h:u=v) (hk:n<=k):bp (zY u n) (zY v k):=
 h▸cj ⟨oI rfl hk,oI rfl hk,oI rfl hk,trivial⟩
def DD:AV->Option ((Mp×Nat)×List Prop)
 |.agg [v,d]=>match C8 v,pH d with
  |some ((v,a),p),some ((d,b),q)=>some ((⟨v,d⟩,max a b),p++q)
  |_,_=>none
 |_=>none
theorem Qj {v:AV} {a:Mp×Nat} {q:List Prop} (h:DD v=some (a,q)) (hq:au q):bp v (mT a.1 a.2):=by
 unfold DD at h
 split at h
 ·split at h
  ·rename_i h1 h2
   simp only[ax,Prod.mk.injEq]at h
   obtain⟨rfl,rfl⟩:=h
   obtain⟨q1,q2⟩:=dN.1 hq
   exact cj ⟨(Vi h1 q1).trans (KJ rfl (by simp only;omega)),(v5 h2 q2).trans (oI rfl (by simp only;omega)),trivial⟩
  ·simp at h
 ·simp at h
theorem ahR {u v:Pl} {n k:Nat} (h:u=v) (hk:n<=k):bp (aJ u n) (aJ v k):=
 h▸cj ⟨oI rfl hk,bC rfl hk,trivial⟩
theorem S9 {u v:Mp} {n k:Nat} (h:u=v) (hk:n<=k):bp (mT u n) (mT v k):=
 h▸cj ⟨KJ rfl hk,oI rfl hk,trivial⟩
def EF (v:AV):Option ((Rat×Nat)×List Prop):=match iD v with
 |some a=>some (a,[])
 |none=>none
theorem ady {v:AV} {a:Rat×Nat} {q:List Prop} (h:EF v=some (a,q)) (_:au q):bp v (rA a.1 a.2):=by
 unfold EF at h
 split at h
 ·rename_i h1
  simp only[ax,Prod.mk.injEq]at h
  obtain⟨rfl,rfl⟩:=h
  exact jf h1
 ·simp at h
def CR:AV->Option (Int×List Prop)
 |.int .i64 n=>some (n,[])
 |_=>none
theorem ahv {v:AV} {a:Int} {q:List Prop} (h:CR v=some (a,q)) (_:au q):bp v (.int .i64 a):=by
 unfold CR at h
 split at h
 ·simp only[ax,Prod.mk.injEq]at h
  obtain⟨rfl,rfl⟩:=h
  exact .refl _
 ·simp at h
def kR:Kind (Rat×Nat):=⟨EF,fun a=>rA a.1 a.2,ady⟩
def kV:Kind (V3×Nat):=⟨pH,fun a=>vA a.1 a.2,v5⟩
def kI:Kind Int:=⟨CR,fun a=>.int .i64 a,ahv⟩
section specs
variable {α β γ δ:Type} {f:FuncId}
def wZ (k:Kind α) (g:α->AV) (need:α->List Prop):Spec:=bX fun l=>match l with
 |[x]=>match k.read x with
  |some (a,p)=>some (aH (g a) (p++need a))
  |none=>none
 |_=>none
theorem zh {k:Kind α} {g:α->AV} {need:α->List Prop} (h:∀a K,au (need a)->aN P f K [k.make a] [] (aH (g a) [])):bf P (wZ k g need) f:=by
 refine cM fun K args r hk hs _=>?_
 split at hs
 ·split at hs
  ·rename_i h1
   simp only[ax]at hs
   subst hs
   intro hn
   obtain⟨n1,hn⟩:=dN.1 hn
   exact eR (h _ K hn) hk ⟨k.ok h1 n1,trivial⟩ [] trivial
  ·simp at hs
 ·simp at hs
def fL (k:Kind α) (k2:Kind β) (g:α->β->AV) (need:α->β->List Prop):Spec:=bX fun l=>match l with
 |[x,y]=>match k.read x,k2.read y with
  |some (a,p),some (b,q)=>some (aH (g a b) (p++(q++need a b)))
  |_,_=>none
 |_=>none
theorem fQ {k:Kind α} {k2:Kind β} {g:α->β->AV} {need:α->β->List Prop} (h:∀a b K,au (need a b)->aN P f K [k.make a,k2.make b] [] (aH (g a b) [])):bf P (fL k k2 g need) f:=by
 refine cM fun K args r hk hs _=>?_
 split at hs
 ·split at hs
  ·rename_i h1 h2
   simp only[ax]at hs
   subst hs
   intro hn
   obtain⟨n1,hn⟩:=dN.1 hn
   obtain⟨n2,hn⟩:=dN.1 hn
   exact eR (h _ _ K hn) hk ⟨k.ok h1 n1,k2.ok h2 n2,trivial⟩ [] trivial
  ·simp at hs
 ·simp at hs
end specs
def nX (a b:Rat×Nat):List Prop:=[a.2<2^42,b.2<2^42]
def oG (a b:Rat×Nat):List Prop:=[a.2<2^41,b.2<2^41]
def pT (a b:Rat×Nat):AV:=rA (a.1+b.1) (a.2+b.2+1)
def zo (a b:Rat×Nat):AV:=rA (a.1-b.1) (a.2+b.2+1)
def Aw (a b:Rat×Nat):AV:=rA (a.1*b.1) (a.2+b.2)
def rq (a b:Rat×Nat):AV:=.tuple [rA (a.1/b.1) (a.2+b.2),.int .i64 (if b.1=0 then 3 else 0)]
def OY (a b:Rat×Nat):AV:=rA (cr a.1 b.1) (max a.2 b.2)
def adk (a b:Rat×Nat):AV:=rA (cq a.1 b.1) (max a.2 b.2)
def yp (a b:Rat×Nat):AV:=.int .i64 (dn a.1 b.1)
def wO (a b:Rat×Nat):AV:=.bool (decide (a.1=b.1))
def ye (a:Rat×Nat):AV:=.int .i64 (eO a.1)
abbrev CJ:FuncId×Spec:=(34,Ol)
def eV:aV:=[(91,fL kR kR pT nX),(38,fL kR kR zo nX),(92,fL kR kR Aw nX),(35,fL kR kR wO nX),(79,fL kR kR yp nX),(84,wZ kR ye fun a=>[a.2<2^42]),CJ]
def ja:aV:=[(69,fL kR kR pT oG),(68,fL kR kR zo oG),(57,fL kR kR Aw oG),(47,fL kR kR wO oG),(96,fL kR kR yp oG),(143,wZ kR ye fun a=>[a.2<2^41]),(20,z7)]
theorem ad3:bf P CJ.2 CJ.1:=acQ
theorem fB:bg P eV:=aE (fQ fun _ _ K hn=>MM hn.1 hn.2 K) (aE (fQ fun _ _ K hn=>ME hn.1 hn.2 K) (aE (fQ fun _ _ K hn=>ID hn.1 hn.2 K)
 (aE (fQ fun _ _ K hn=>C1 (Nat.lt_trans hn.1 aa) (Nat.lt_trans hn.2 aa) K []) (aE (fQ fun _ _ K hn=>CM hn.1 hn.2 K []) (aE (zh fun _ K hn=>Br (Nat.lt_trans hn aa) K []) (aE ad3 bD))))))
theorem jw:bg P ja:=aE (fQ fun _ _ K hn=>BK hn.1 hn.2 K) (aE (fQ fun _ _ K hn=>JU hn.1 hn.2 K) (aE (fQ fun _ _ K hn=>NW hn.1 hn.2 K)
 (aE (fQ fun _ _ K hn=>HP (Nat.lt_trans hn.1 aa) (Nat.lt_trans hn.2 aa) K []) (aE (fQ fun _ _ K hn=>Kl hn.1 hn.2 K) (aE (zh fun _ K _=>Bs K []) (aE CN bD))))))
end Go.Am.B
