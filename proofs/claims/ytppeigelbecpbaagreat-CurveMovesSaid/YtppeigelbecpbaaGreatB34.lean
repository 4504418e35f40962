/- aR by the shape of the arguments: numbers, points, planes, maps. -/
import Derived.Test.YtppeigelbecpbaaGreatB33
set_option linter.unusedVariables false
namespace Go.Am.B
open Go Go.Am.N AV
@[ext] structure V3 where
 x:Rat
 y:Rat
 z:Rat
structure Pl where
 n:V3
 d:Rat
structure M3 where
 a:V3
 b:V3
 c:V3
structure Mp where
 m:M3
 t:V3
abbrev rA (q:Rat) (n:Nat):AV:=.rat q n
abbrev vA (v:V3) (n:Nat):AV:=.agg [.rat v.x n,.rat v.y n,.rat v.z n]
abbrev bw (p:Pl) (n:Nat):AV:=.agg [vA p.n n,.rat p.d n]
abbrev BI (m:M3) (n:Nat):AV:=.agg [vA m.a n,vA m.b n,vA m.c n]
abbrev fh (m:Mp) (n:Nat):AV:=.agg [BI m.m n,vA m.t n]
theorem bp {q r:Rat} {n k:Nat} (h:q=r) (hk:n≤k):bA (.rat q n) (.rat r k):=h▸eW hk
theorem kA {u v:V3} {n k:Nat} (h:u=v) (hk:n≤k):bA (vA u n) (vA v k):=
 h▸bQ ⟨bp rfl hk,bp rfl hk,bp rfl hk,trivial⟩
structure Kind (α:Type) where
 read:AV→Option (α×List Prop)
 make:α→AV
 ok:∀{v:AV} {a:α} {q:List Prop},read v=some (a,q)→ax q→bA v (make a)
def ic:AV→Option (Rat×Nat)
 |.rat q n=>some (q,n)
 |.agg [.bool false,.mag 0,.mag 0]=>some (0,1)
 |_=>none
theorem jg {v:AV} {a:Rat×Nat} (h:ic v=some a):bA v (rA a.1 a.2):=by
 unfold ic at h
 split at h
 ·simp only[Option.some.injEq]at h;subst h;exact .refl _
 ·simp only[Option.some.injEq]at h;subst h;exact kq
 ·simp at h
def oV:AV→Option ((V3×Nat)×List Prop)
 |.agg [x,y,z]=>match ic x,ic y,ic z with
  |some (x,a),some (y,b),some (z,c)=>some ((⟨x,y,z⟩,a),[b≤a,c≤a])
  |_,_,_=>none
 |_=>none
theorem tW {v:AV} {a:V3×Nat} {q:List Prop} (h:oV v=some (a,q)) (hq:ax q):bA v (vA a.1 a.2):=by
 unfold oV at h
 split at h
 ·split at h
  ·rename_i h1 h2 h3
   simp only[Option.some.injEq,Prod.mk.injEq]at h
   obtain⟨rfl,rfl⟩:=h
   exact bQ ⟨jg h1,(jg h2).trans (bp rfl hq.1),(jg h3).trans (bp rfl hq.2),trivial⟩
  ·simp at h
 ·simp at h
def DD:AV→Option ((Pl×Nat)×List Prop)
 |.agg [v,d]=>match oV v,ic d with
  |some ((v,a),q),some (d,b)=>some ((⟨v,d⟩,max a b),q)
  |_,_=>none
 |_=>none
theorem ahb {v:AV} {a:Pl×Nat} {q:List Prop} (h:DD v=some (a,q)) (hq:ax q):bA v (bw a.1 a.2):=by
 unfold DD at h
 split at h
 ·split at h
  ·rename_i h1 h2
   simp only[Option.some.injEq,Prod.mk.injEq]at h
   obtain⟨rfl,rfl⟩:=h
   exact bQ ⟨(tW h1 hq).trans (kA rfl (by simp only;omega)),(jg h2).trans (bp rfl (by simp only;omega)),trivial⟩
  ·simp at h
 ·simp at h
def Gy:AV→Option ((M3×Nat)×List Prop)
 |.agg [x,y,z]=>match oV x,oV y,oV z with
  |some ((x,a),p),some ((y,b),q),some ((z,c),r)=>some ((⟨x,y,z⟩,a),[b≤a,c≤a]++(p++(q++r)))
  |_,_,_=>none
 |_=>none
theorem abb {v:AV} {a:M3×Nat} {q:List Prop} (h:Gy v=some (a,q)) (hq:ax q):bA v (BI a.1 a.2):=by
 unfold Gy at h
 split at h
 ·split at h
  ·rename_i h1 h2 h3
   simp only[Option.some.injEq,Prod.mk.injEq]at h
   obtain⟨rfl,rfl⟩:=h
   obtain⟨q1,q2⟩:=cE.1 hq
   obtain⟨q2,q3⟩:=cE.1 q2
   obtain⟨q3,q4⟩:=cE.1 q3
   exact bQ ⟨tW h1 q2,(tW h2 q3).trans (kA rfl q1.1),(tW h3 q4).trans (kA rfl q1.2),trivial⟩
  ·simp at h
 ·simp at h
theorem LF {u v:M3} {n k:Nat} (h:u=v) (hk:n≤k):bA (BI u n) (BI v k):=
 h▸bQ ⟨kA rfl hk,kA rfl hk,kA rfl hk,trivial⟩
def Dm:AV→Option ((Mp×Nat)×List Prop)
 |.agg [v,d]=>match Gy v,oV d with
  |some ((v,a),p),some ((d,b),q)=>some ((⟨v,d⟩,max a b),p++q)
  |_,_=>none
 |_=>none
theorem Zx {v:AV} {a:Mp×Nat} {q:List Prop} (h:Dm v=some (a,q)) (hq:ax q):bA v (fh a.1 a.2):=by
 unfold Dm at h
 split at h
 ·split at h
  ·rename_i h1 h2
   simp only[Option.some.injEq,Prod.mk.injEq]at h
   obtain⟨rfl,rfl⟩:=h
   obtain⟨q1,q2⟩:=cE.1 hq
   exact bQ ⟨(abb h1 q1).trans (LF rfl (by simp only;omega)),(tW h2 q2).trans (kA rfl (by simp only;omega)),trivial⟩
  ·simp at h
 ·simp at h
theorem Yo {u v:Mp} {n k:Nat} (h:u=v) (hk:n≤k):bA (fh u n) (fh v k):=
 h▸bQ ⟨LF rfl hk,kA rfl hk,trivial⟩
def Hv (v:AV):Option ((Rat×Nat)×List Prop):=match ic v with
 |some a=>some (a,[])
 |none=>none
theorem QN {v:AV} {a:Rat×Nat} {q:List Prop} (h:Hv v=some (a,q)) (_:ax q):bA v (rA a.1 a.2):=by
 unfold Hv at h
 split at h
 ·rename_i h1
  simp only[Option.some.injEq,Prod.mk.injEq]at h
  obtain⟨rfl,rfl⟩:=h
  exact jg h1
 ·simp at h
def DN:AV→Option (Int×List Prop)
 |.int .i64 n=>some (n,[])
 |_=>none
theorem acz {v:AV} {a:Int} {q:List Prop} (h:DN v=some (a,q)) (_:ax q):bA v (.int .i64 a):=by
 unfold DN at h
 split at h
 ·simp only[Option.some.injEq,Prod.mk.injEq]at h
  obtain⟨rfl,rfl⟩:=h
  exact .refl _
 ·simp at h
def kR:Kind (Rat×Nat):=⟨Hv,fun a=>rA a.1 a.2,QN⟩
def kV:Kind (V3×Nat):=⟨oV,fun a=>vA a.1 a.2,tW⟩
def kPl:Kind (Pl×Nat):=⟨DD,fun a=>bw a.1 a.2,ahb⟩
def kI:Kind Int:=⟨DN,fun a=>.int .i64 a,acz⟩
section specs
variable {α β γ δ:Type} {f:FuncId}
def Gz (k:Kind α) (g:α→AV) (need:α→List Prop):Spec:=bB fun l=>match l with
 |[x]=>match k.read x with
  |some (a,p)=>some (aI (g a) (p++need a))
  |none=>none
 |_=>none
theorem IA {k:Kind α} {g:α→AV} {need:α→List Prop} (h:∀a K,ax (need a)→aA P f K [k.make a] [] (aI (g a) [])):∀K args pre r,Gz k g need K args pre=some r→aA P f K args pre r:=by
 refine bS fun K args r hk hs _=>?_
 split at hs
 ·split at hs
  ·rename_i h1
   simp only[Option.some.injEq]at hs
   subst hs
   intro hn
   obtain⟨n1,hn⟩:=cE.1 hn
   exact fN (h _ K hn) hk ⟨k.ok h1 n1,trivial⟩ [] trivial
  ·simp at hs
 ·simp at hs
def gI (k:Kind α) (k2:Kind β) (g:α→β→AV) (need:α→β→List Prop):Spec:=bB fun l=>match l with
 |[x,y]=>match k.read x,k2.read y with
  |some (a,p),some (b,q)=>some (aI (g a b) (p++(q++need a b)))
  |_,_=>none
 |_=>none
theorem gZ {k:Kind α} {k2:Kind β} {g:α→β→AV} {need:α→β→List Prop} (h:∀a b K,ax (need a b)→aA P f K [k.make a,k2.make b] [] (aI (g a b) [])):∀K args pre r,gI k k2 g need K args pre=some r→aA P f K args pre r:=by
 refine bS fun K args r hk hs _=>?_
 split at hs
 ·split at hs
  ·rename_i h1 h2
   simp only[Option.some.injEq]at hs
   subst hs
   intro hn
   obtain⟨n1,hn⟩:=cE.1 hn
   obtain⟨n2,hn⟩:=cE.1 hn
   exact fN (h _ _ K hn) hk ⟨k.ok h1 n1,k2.ok h2 n2,trivial⟩ [] trivial
  ·simp at hs
 ·simp at hs
end specs
def mU (a b:Rat×Nat):List Prop:=[a.2<2^42,b.2<2^42]
def qg (a b:Rat×Nat):List Prop:=[a.2<2^41,b.2<2^41]
def kz (a b:Rat×Nat):AV:=rA (a.1+b.1) (a.2+b.2+1)
def tN (a b:Rat×Nat):AV:=rA (a.1-b.1) (a.2+b.2+1)
def B3 (a b:Rat×Nat):AV:=rA (a.1*b.1) (a.2+b.2)
def sj (a b:Rat×Nat):AV:=.tuple [rA (a.1/b.1) (a.2+b.2),.int .i64 (if b.1=0 then 3 else 0)]
def abq (a b:Rat×Nat):AV:=rA (Dt a.1 b.1) (max a.2 b.2)
def ajE (a b:Rat×Nat):AV:=rA (Cd a.1 b.1) (max a.2 b.2)
def Bn (a b:Rat×Nat):AV:=.int .i64 (dZ a.1 b.1)
def Ba (a b:Rat×Nat):AV:=.bool (decide (a.1=b.1))
def DF (a:Rat×Nat):AV:=.int .i64 (dS a.1)
abbrev F8:FuncId×Spec:=(pE,Ke)
def eU:aR:=[(xW,gI kR kR kz mU),(Ae,gI kR kR tN mU),(uv,gI kR kR B3 mU),(fT,gI kR kR Ba mU),(jb,gI kR kR Bn mU),(qb,Gz kR DF fun a=>[a.2<2^42]),F8]
def Ct:aR:=[(p4,gI kR kR kz qg),(yA,gI kR kR tN qg),(wE,gI kR kR B3 qg),(AO,gI kR kR Ba qg),(vu,gI kR kR Bn qg),(qP,Gz kR DF fun a=>[a.2<2^41]),(lJ,tL)]
theorem aiK:∀K args pre r,F8.2 K args pre=some r→aA P F8.1 K args pre r:=aim
theorem fC:aX P eU:=aJ (gZ fun _ _ K hn=>Nk hn.1 hn.2 K) (aJ (gZ fun _ _ K hn=>Qa hn.1 hn.2 K) (aJ (gZ fun _ _ K hn=>K7 hn.1 hn.2 K)
 (aJ (gZ fun _ _ K hn=>Jm (Nat.lt_trans hn.1 (by omega)) (Nat.lt_trans hn.2 (by omega)) K []) (aJ (gZ fun _ _ K hn=>DK hn.1 hn.2 K []) (aJ (IA fun _ K hn=>HK (Nat.lt_trans hn (by omega)) K []) (aJ aiK bn))))))
theorem FJ:aX P Ct:=aJ (gZ fun _ _ K hn=>Gg hn.1 hn.2 K) (aJ (gZ fun _ _ K hn=>Lz hn.1 hn.2 K) (aJ (gZ fun _ _ K hn=>Mn hn.1 hn.2 K)
 (aJ (gZ fun _ _ K hn=>MR (Nat.lt_trans hn.1 (by omega)) (Nat.lt_trans hn.2 (by omega)) K []) (aJ (gZ fun _ _ K hn=>MM hn.1 hn.2 K) (aJ (IA fun _ K _=>Hr K []) (aJ zo bn))))))
end Go.Am.B
