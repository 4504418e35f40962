/- aT by the shape of the arguments: numbers, points, planes, maps. -/
import Derived.Test.YtppeigelbecpbaaGreatB33
set_option linter.unusedVariables false
namespace Go.Am.B
open Go Go.Am.N AV
@[ext] structure V3 where
 x:Rat
 y:Rat
 z:Rat
structure Pl where
 n:V3
 d:Rat
structure M3 where
 a:V3
 b:V3
 c:V3
structure Mp where
 m:M3
 t:V3
abbrev rA (q:Rat) (n:Nat):AV:=.rat q n
abbrev vA (v:V3) (n:Nat):AV:=.agg [.rat v.x n,.rat v.y n,.rat v.z n]
abbrev cz (p:Pl) (n:Nat):AV:=.agg [vA p.n n,.rat p.d n]
theorem bP {q r:Rat} {n k:Nat} (h:q=r) (hk:n≤k):bt (.rat q n) (.rat r k):=h▸en hk
theorem yG {u v:V3} {n k:Nat} (h:u=v) (hk:n≤k):bt (vA u n) (vA v k):=
 h▸dJ ⟨bP rfl hk,bP rfl hk,bP rfl hk,trivial⟩
structure Kind (α:Type) where
 read:AV→Option (α×List Prop)
 make:α→AV
 ok:∀{v:AV} {a:α} {q:List Prop},read v=some (a,q)→az q→bt v (make a)
def gv:AV→Option (Rat×Nat)
 |.rat q n=>some (q,n)
 |.agg [.bool false,.mag 0,.mag 0]=>some (0,1)
 |_=>none
theorem ij {v:AV} {a:Rat×Nat} (h:gv v=some a):bt v (rA a.1 a.2):=by
 unfold gv at h
 split at h
 ·simp only[Option.some.injEq]at h;subst h;exact .refl _
 ·simp only[Option.some.injEq]at h;subst h;exact jH
 ·simp at h
def BN:AV→Option ((V3×Nat)×List Prop)
 |.agg [x,y,z]=>match gv x,gv y,gv z with
  |some (x,a),some (y,b),some (z,c)=>some ((⟨x,y,z⟩,a),[b≤a,c≤a])
  |_,_,_=>none
 |_=>none
theorem Yt {v:AV} {a:V3×Nat} {q:List Prop} (h:BN v=some (a,q)) (hq:az q):bt v (vA a.1 a.2):=by
 unfold BN at h
 split at h
 ·split at h
  ·rename_i h1 h2 h3
   simp only[Option.some.injEq,Prod.mk.injEq]at h
   obtain⟨rfl,rfl⟩:=h
   exact dJ ⟨ij h1,(ij h2).trans (bP rfl hq.1),(ij h3).trans (bP rfl hq.2),trivial⟩
  ·simp at h
 ·simp at h
def yO:AV→Option ((Pl×Nat)×List Prop)
 |.agg [v,d]=>match BN v,gv d with
  |some ((v,a),q),some (d,b)=>some ((⟨v,d⟩,max a b),q)
  |_,_=>none
 |_=>none
theorem PS {v:AV} {a:Pl×Nat} {q:List Prop} (h:yO v=some (a,q)) (hq:az q):bt v (cz a.1 a.2):=by
 unfold yO at h
 split at h
 ·split at h
  ·rename_i h1 h2
   simp only[Option.some.injEq,Prod.mk.injEq]at h
   obtain⟨rfl,rfl⟩:=h
   exact dJ ⟨(Yt h1 hq).trans (yG rfl (by simp only;omega)),(ij h2).trans (bP rfl (by simp only;omega)),trivial⟩
  ·simp at h
 ·simp at h
def z3 (v:AV):Option ((Rat×Nat)×List Prop):=match gv v with
 |some a=>some (a,[])
 |none=>none
theorem WW {v:AV} {a:Rat×Nat} {q:List Prop} (h:z3 v=some (a,q)) (_:az q):bt v (rA a.1 a.2):=by
 unfold z3 at h
 split at h
 ·rename_i h1
  simp only[Option.some.injEq,Prod.mk.injEq]at h
  obtain⟨rfl,rfl⟩:=h
  exact ij h1
 ·simp at h
def Bt:AV→Option (Int×List Prop)
 |.int .i64 n=>some (n,[])
 |_=>none
theorem Wh {v:AV} {a:Int} {q:List Prop} (h:Bt v=some (a,q)) (_:az q):bt v (.int .i64 a):=by
 unfold Bt at h
 split at h
 ·simp only[Option.some.injEq,Prod.mk.injEq]at h
  obtain⟨rfl,rfl⟩:=h
  exact .refl _
 ·simp at h
def kR:Kind (Rat×Nat):=⟨z3,fun a=>rA a.1 a.2,WW⟩
def XU:Kind (Pl×Nat):=⟨yO,fun a=>cz a.1 a.2,PS⟩
def kI:Kind Int:=⟨Bt,fun a=>.int .i64 a,Wh⟩
section specs
variable {α β γ δ:Type} {f:FuncId}
def EO (k:Kind α) (g:α→AV) (need:α→List Prop):Spec:=bq fun l=>match l with
 |[x]=>match k.read x with
  |some (a,p)=>some (aG (g a) (p++need a))
  |none=>none
 |_=>none
theorem J6 {k:Kind α} {g:α→AV} {need:α→List Prop} (h:∀a K,az (need a)→aB P f K [k.make a] [] (aG (g a) [])):∀K args pre r,EO k g need K args pre=some r→aB P f K args pre r:=by
 refine bL fun K args r hk hs _=>?_
 split at hs
 ·split at hs
  ·rename_i h1
   simp only[Option.some.injEq]at hs
   subst hs
   intro hn
   obtain⟨n1,hn⟩:=dA.1 hn
   exact eO (h _ K hn) hk ⟨k.ok h1 n1,trivial⟩ [] trivial
  ·simp at hs
 ·simp at hs
def k9 (k:Kind α) (k2:Kind β) (g:α→β→AV) (need:α→β→List Prop):Spec:=bq fun l=>match l with
 |[x,y]=>match k.read x,k2.read y with
  |some (a,p),some (b,q)=>some (aG (g a b) (p++(q++need a b)))
  |_,_=>none
 |_=>none
theorem mL {k:Kind α} {k2:Kind β} {g:α→β→AV} {need:α→β→List Prop} (h:∀a b K,az (need a b)→aB P f K [k.make a,k2.make b] [] (aG (g a b) [])):∀K args pre r,k9 k k2 g need K args pre=some r→aB P f K args pre r:=by
 refine bL fun K args r hk hs _=>?_
 split at hs
 ·split at hs
  ·rename_i h1 h2
   simp only[Option.some.injEq]at hs
   subst hs
   intro hn
   obtain⟨n1,hn⟩:=dA.1 hn
   obtain⟨n2,hn⟩:=dA.1 hn
   exact eO (h _ _ K hn) hk ⟨k.ok h1 n1,k2.ok h2 n2,trivial⟩ [] trivial
  ·simp at hs
 ·simp at hs
end specs
def nJ (a b:Rat×Nat):List Prop:=[a.2<2^42,b.2<2^42]
def mK (a b:Rat×Nat):AV:=rA (a.1+b.1) (a.2+b.2+1)
def AP (a b:Rat×Nat):AV:=rA (a.1-b.1) (a.2+b.2+1)
def zD (a b:Rat×Nat):AV:=rA (a.1*b.1) (a.2+b.2)
def B3 (a b:Rat×Nat):AV:=.tuple [rA (a.1/b.1) (a.2+b.2),.int .i64 (if b.1=0 then 3 else 0)]
def Tl (a b:Rat×Nat):AV:=rA (wI a.1 b.1) (max a.2 b.2)
def Rt (a b:Rat×Nat):AV:=rA (xp a.1 b.1) (max a.2 b.2)
def BS (a b:Rat×Nat):AV:=.int .i64 (dS a.1 b.1)
def BD (a b:Rat×Nat):AV:=.bool (decide (a.1=b.1))
def Br (a:Rat×Nat):AV:=.int .i64 (dx a.1)
abbrev z7:FuncId×Spec:=(oe,EW)
def fN:aT:=[(tu,k9 kR kR mK nJ),(qA,k9 kR kR AP nJ),(rI,k9 kR kR zD nJ),(fk,k9 kR kR BD nJ),(hJ,k9 kR kR BS nJ),(mG,EO kR Br fun a=>[a.2<2^42]),z7]
theorem Nu:∀K args pre r,z7.2 K args pre=some r→aB P z7.1 K args pre r:=IT
theorem gM:bp P fN:=aK (mL fun _ _ K hn=>Fa hn.1 hn.2 K) (aK (mL fun _ _ K hn=>HY hn.1 hn.2 K) (aK (mL fun _ _ K hn=>Gs hn.1 hn.2 K)
 (aK (mL fun _ _ K hn=>D0 (Nat.lt_trans hn.1 (by omega)) (Nat.lt_trans hn.2 (by omega)) K []) (aK (mL fun _ _ K hn=>AN hn.1 hn.2 K []) (aK (J6 fun _ K hn=>BV (Nat.lt_trans hn (by omega)) K []) (aK Nu br))))))
end Go.Am.B
