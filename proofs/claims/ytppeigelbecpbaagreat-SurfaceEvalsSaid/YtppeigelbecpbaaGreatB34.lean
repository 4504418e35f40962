/- aS by the shape of the arguments: numbers, points, planes, maps. -/
import Derived.Test.YtppeigelbecpbaaGreatB33
set_option linter.unusedVariables false
namespace Go.Am.B
open Go Go.Am.N AV
@[ext] structure V3 where
 x:Rat
 y:Rat
 z:Rat
structure Pl where
 n:V3
 d:Rat
structure M3 where
 a:V3
 b:V3
 c:V3
structure Mp where
 m:M3
 t:V3
abbrev rA (q:Rat) (n:Nat):AV:=.rat q n
abbrev vA (v:V3) (n:Nat):AV:=.agg [.rat v.x n,.rat v.y n,.rat v.z n]
abbrev bN (p:Pl) (n:Nat):AV:=.agg [vA p.n n,.rat p.d n]
theorem bL {q r:Rat} {n k:Nat} (h:q=r) (hk:n≤k):bz (.rat q n) (.rat r k):=h▸cN hk
theorem oH {u v:V3} {n k:Nat} (h:u=v) (hk:n≤k):bz (vA u n) (vA v k):=
 h▸cF ⟨bL rfl hk,bL rfl hk,bL rfl hk,trivial⟩
structure Kind (α:Type) where
 read:AV→Option (α×List Prop)
 make:α→AV
 ok:∀{v:AV} {a:α} {q:List Prop},read v=some (a,q)→ax q→bz v (make a)
def gO:AV→Option (Rat×Nat)
 |.rat q n=>some (q,n)
 |.agg [.bool false,.mag 0,.mag 0]=>some (0,1)
 |_=>none
theorem iK {v:AV} {a:Rat×Nat} (h:gO v=some a):bz v (rA a.1 a.2):=by
 unfold gO at h
 split at h
 ·simp only[Option.some.injEq]at h;subst h;exact .refl _
 ·simp only[Option.some.injEq]at h;subst h;exact iE
 ·simp at h
def Ch:AV→Option ((V3×Nat)×List Prop)
 |.agg [x,y,z]=>match gO x,gO y,gO z with
  |some (x,a),some (y,b),some (z,c)=>some ((⟨x,y,z⟩,a),[b≤a,c≤a])
  |_,_,_=>none
 |_=>none
theorem aeW {v:AV} {a:V3×Nat} {q:List Prop} (h:Ch v=some (a,q)) (hq:ax q):bz v (vA a.1 a.2):=by
 unfold Ch at h
 split at h
 ·split at h
  ·rename_i h1 h2 h3
   simp only[Option.some.injEq,Prod.mk.injEq]at h
   obtain⟨rfl,rfl⟩:=h
   exact cF ⟨iK h1,(iK h2).trans (bL rfl hq.1),(iK h3).trans (bL rfl hq.2),trivial⟩
  ·simp at h
 ·simp at h
def z9:AV→Option ((Pl×Nat)×List Prop)
 |.agg [v,d]=>match Ch v,gO d with
  |some ((v,a),q),some (d,b)=>some ((⟨v,d⟩,max a b),q)
  |_,_=>none
 |_=>none
theorem aar {v:AV} {a:Pl×Nat} {q:List Prop} (h:z9 v=some (a,q)) (hq:ax q):bz v (bN a.1 a.2):=by
 unfold z9 at h
 split at h
 ·split at h
  ·rename_i h1 h2
   simp only[Option.some.injEq,Prod.mk.injEq]at h
   obtain⟨rfl,rfl⟩:=h
   exact cF ⟨(aeW h1 hq).trans (oH rfl (by simp only;omega)),(iK h2).trans (bL rfl (by simp only;omega)),trivial⟩
  ·simp at h
 ·simp at h
def Eh (v:AV):Option ((Rat×Nat)×List Prop):=match gO v with
 |some a=>some (a,[])
 |none=>none
theorem adj {v:AV} {a:Rat×Nat} {q:List Prop} (h:Eh v=some (a,q)) (_:ax q):bz v (rA a.1 a.2):=by
 unfold Eh at h
 split at h
 ·rename_i h1
  simp only[Option.some.injEq,Prod.mk.injEq]at h
  obtain⟨rfl,rfl⟩:=h
  exact iK h1
 ·simp at h
def Fm:AV→Option (Int×List Prop)
 |.int .i64 n=>some (n,[])
 |_=>none
theorem Vv {v:AV} {a:Int} {q:List Prop} (h:Fm v=some (a,q)) (_:ax q):bz v (.int .i64 a):=by
 unfold Fm at h
 split at h
 ·simp only[Option.some.injEq,Prod.mk.injEq]at h
  obtain⟨rfl,rfl⟩:=h
  exact .refl _
 ·simp at h
def kR:Kind (Rat×Nat):=⟨Eh,fun a=>rA a.1 a.2,adj⟩
def kPl:Kind (Pl×Nat):=⟨z9,fun a=>bN a.1 a.2,aar⟩
def kI:Kind Int:=⟨Fm,fun a=>.int .i64 a,Vv⟩
section specs
variable {α β γ δ:Type} {f:FuncId}
def CD (k:Kind α) (g:α→AV) (need:α→List Prop):Spec:=bA fun l=>match l with
 |[x]=>match k.read x with
  |some (a,p)=>some (aF (g a) (p++need a))
  |none=>none
 |_=>none
theorem Nb {k:Kind α} {g:α→AV} {need:α→List Prop} (h:∀a K,ax (need a)→az P f K [k.make a] [] (aF (g a) [])):∀K args pre r,CD k g need K args pre=some r→az P f K args pre r:=by
 refine bS fun K args r hk hs _=>?_
 split at hs
 ·split at hs
  ·rename_i h1
   simp only[Option.some.injEq]at hs
   subst hs
   intro hn
   obtain⟨n1,hn⟩:=dw.1 hn
   exact fP (h _ K hn) hk ⟨k.ok h1 n1,trivial⟩ [] trivial
  ·simp at hs
 ·simp at hs
def gT (k:Kind α) (k2:Kind β) (g:α→β→AV) (need:α→β→List Prop):Spec:=bA fun l=>match l with
 |[x,y]=>match k.read x,k2.read y with
  |some (a,p),some (b,q)=>some (aF (g a b) (p++(q++need a b)))
  |_,_=>none
 |_=>none
theorem iA {k:Kind α} {k2:Kind β} {g:α→β→AV} {need:α→β→List Prop} (h:∀a b K,ax (need a b)→az P f K [k.make a,k2.make b] [] (aF (g a b) [])):∀K args pre r,gT k k2 g need K args pre=some r→az P f K args pre r:=by
 refine bS fun K args r hk hs _=>?_
 split at hs
 ·split at hs
  ·rename_i h1 h2
   simp only[Option.some.injEq]at hs
   subst hs
   intro hn
   obtain⟨n1,hn⟩:=dw.1 hn
   obtain⟨n2,hn⟩:=dw.1 hn
   exact fP (h _ _ K hn) hk ⟨k.ok h1 n1,k2.ok h2 n2,trivial⟩ [] trivial
  ·simp at hs
 ·simp at hs
end specs
def oD (a b:Rat×Nat):List Prop:=[a.2<2^42,b.2<2^42]
def nU (a b:Rat×Nat):List Prop:=[a.2<2^41,b.2<2^41]
def iw (a b:Rat×Nat):AV:=rA (a.1+b.1) (a.2+b.2+1)
def BL (a b:Rat×Nat):AV:=rA (a.1-b.1) (a.2+b.2+1)
def A8 (a b:Rat×Nat):AV:=rA (a.1*b.1) (a.2+b.2)
def xP (a b:Rat×Nat):AV:=.tuple [rA (a.1/b.1) (a.2+b.2),.int .i64 (if b.1=0 then 3 else 0)]
def ago (a b:Rat×Nat):AV:=rA (kz a.1 b.1) (max a.2 b.2)
def P1 (a b:Rat×Nat):AV:=rA (k8 a.1 b.1) (max a.2 b.2)
def Af (a b:Rat×Nat):AV:=.int .i64 (eU a.1 b.1)
def Aj (a b:Rat×Nat):AV:=.bool (decide (a.1=b.1))
def Ap (a:Rat×Nat):AV:=.int .i64 (dL a.1)
abbrev D5:FuncId×Spec:=(ow,J3)
def lz:aS:=[(tJ,gT kR kR iw oD),(tN,gT kR kR BL oD),(uu,gT kR kR A8 oD),(fJ,gT kR kR Aj oD),(iZ,gT kR kR Af oD),(oA,CD kR Ap fun a=>[a.2<2^42]),D5]
def jq:aS:=[(oy,gT kR kR iw nU),(yu,gT kR kR BL nU),(sw,gT kR kR A8 nU),(tr,gT kR kR Aj nU),(wV,gT kR kR Af nU),(oL,CD kR Ap fun a=>[a.2<2^41]),(jE,yS)]
theorem To:∀K args pre r,D5.2 K args pre=some r→az P D5.1 K args pre r:=U9
theorem mS:aW P lz:=aD (iA fun _ _ K hn=>Iw hn.1 hn.2 K) (aD (iA fun _ _ K hn=>JJ hn.1 hn.2 K) (aD (iA fun _ _ K hn=>Ni hn.1 hn.2 K)
 (aD (iA fun _ _ K hn=>FM (Nat.lt_trans hn.1 (by omega)) (Nat.lt_trans hn.2 (by omega)) K []) (aD (iA fun _ _ K hn=>Df hn.1 hn.2 K []) (aD (Nb fun _ K hn=>Dy (Nat.lt_trans hn (by omega)) K []) (aD To aX))))))
theorem jV:aW P jq:=aD (iA fun _ _ K hn=>E4 hn.1 hn.2 K) (aD (iA fun _ _ K hn=>Fw hn.1 hn.2 K) (aD (iA fun _ _ K hn=>HU hn.1 hn.2 K)
 (aD (iA fun _ _ K hn=>FQ (Nat.lt_trans hn.1 (by omega)) (Nat.lt_trans hn.2 (by omega)) K []) (aD (iA fun _ _ K hn=>Lk hn.1 hn.2 K) (aD (Nb fun _ K _=>DT K []) (aD AM aX))))))
end Go.Am.B
