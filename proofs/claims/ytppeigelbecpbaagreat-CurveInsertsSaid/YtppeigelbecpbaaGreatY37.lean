/- brepkernelmade: Part. -/
import Derived.Test.YtppeigelbecpbaaGreatB33
import Derived.Test.YtppeigelbecpbaaGreatZ2
import Init
set_option linter.unusedVariables false
namespace Go.Am.B
open Go Go.Am.N AV
theorem akh:aP P Dq wB (au wB):=aQ VV (by kernel_rfl) (by kernel_rfl) (by kernel_rfl)
def ajs:aS:=[(ry,D9),(oR,uZ)]
theorem UF {d:Int}:bC T ajs [] 60 wB (au wB) ⟨aN 0 [.int .i64 d],[],0⟩=
  some (aa.ag [(17:Int)≠(0:Int),(0:Int)<(12:Int),(12:Int)<(2:Int)^62] (aa.ag [(0:Int)<IntKind.i64.wrap (IntKind.i64.wrap ((1:Int)+IntKind.i64.wrap (d.tdiv (17:Int))%(12:Int))+(1:Int)),IntKind.i64.wrap (IntKind.i64.wrap ((1:Int)+IntKind.i64.wrap (d.tdiv (17:Int))%(12:Int))+(1:Int))<(2:Int)^62,-(2:Int)^63≤d%IntKind.i64.wrap (IntKind.i64.wrap ((1:Int)+IntKind.i64.wrap (d.tdiv (17:Int))%(12:Int))+(1:Int)),d%IntKind.i64.wrap (IntKind.i64.wrap ((1:Int)+IntKind.i64.wrap (d.tdiv (17:Int))%(12:Int))+(1:Int))<(2:Int)^63,-(2:Int)^63≤IntKind.i64.wrap ((1:Int)+IntKind.i64.wrap (d.tdiv (17:Int))%(12:Int)),IntKind.i64.wrap ((1:Int)+IntKind.i64.wrap (d.tdiv (17:Int))%(12:Int))<(2:Int)^63,(0:Nat)<1] (aa.ag [(0:Nat)<1] (aa.leaf ak.ret [rat ((↑(d%IntKind.i64.wrap (IntKind.i64.wrap ((1:Int)+IntKind.i64.wrap (d.tdiv (17:Int))%(12:Int))+(1:Int))):Rat)/(↑(IntKind.i64.wrap ((1:Int)+IntKind.i64.wrap (d.tdiv (17:Int))%(12:Int))):Rat)) 64])))):=by kernel_rfl
def Ay (d:Int):Int:=1+IntKind.i64.wrap (d.tdiv 17)%12
def nD (d:Int):Rat:=((d%(Ay d+1):Int):Rat)/((Ay d:Int):Rat)
def Oq:Spec:=bE fun l=>match l with
 |[.int .i64 d]=>some (aG (.rat (nD d) 64) [])
 |_=>none
theorem VB:∀K args pre r,Oq K args pre=some r→aA P Dq K args pre r:=by
 refine bX fun K args r hk hs _=>?_
 split at hs
 ·rename_i d
  simp only[Option.some.injEq]at hs
  subst hs
  refine bJ hT (aH Fy (aH DU bp)) hm akh rfl (of_decide_eq_true (by kernel_rfl)) rfl 60 UF (fun _=>?_) K []
  unfold nD Ay
  generalize IntKind.i64.wrap (d.tdiv 17)=w at*
  have w1:=Int.emod_nonneg w (show(12:Int)≠0 by omega)
  have w2:=Int.emod_lt_of_pos w (show(0:Int)<12 by omega)
  generalize w%12=x at*
  have e1:IntKind.i64.wrap (1+x)=1+x:=wrap_i64 (by omega) (by omega)
  have e2:IntKind.i64.wrap (1+x+1)=1+x+1:=wrap_i64 (by omega) (by omega)
  rw[e1,e2]
  have v1:=Int.emod_nonneg d (show 1+x+1≠0 by omega)
  have v2:=Int.emod_lt_of_pos d (show 0<1+x+1 by omega)
  generalize d%(1+x+1)=y at*
  simp only[aa.all,ax]
  exact⟨⟨by omega,by omega,by omega⟩,⟨by omega,by omega,by omega,by omega,by omega,by omega,by omega⟩,by omega,.refl _⟩
 ·simp at hs
end Go.Am.B

/- aS by the shape of the arguments: numbers, points, planes, maps. -/
namespace Go.Am.B
open Go Go.Am.N AV
@[ext] structure V3 where
 x:Rat
 y:Rat
 z:Rat
structure Pl where
 n:V3
 d:Rat
structure M3 where
 a:V3
 b:V3
 c:V3
structure Mp where
 m:M3
 t:V3
abbrev rA (q:Rat) (n:Nat):AV:=.rat q n
abbrev vA (v:V3) (n:Nat):AV:=.agg [.rat v.x n,.rat v.y n,.rat v.z n]
abbrev bI (p:Pl) (n:Nat):AV:=.agg [vA p.n n,.rat p.d n]
theorem bG {q r:Rat} {n k:Nat} (h:q=r) (hk:n≤k):bw (.rat q n) (.rat r k):=h▸fe hk
theorem Di {u v:V3} {n k:Nat} (h:u=v) (hk:n≤k):bw (vA u n) (vA v k):=
 h▸cB ⟨bG rfl hk,bG rfl hk,bG rfl hk,trivial⟩
structure Kind (α:Type) where
 read:AV→Option (α×List Prop)
 make:α→AV
 ok:∀{v:AV} {a:α} {q:List Prop},read v=some (a,q)→ax q→bw v (make a)
def iP:AV→Option (Rat×Nat)
 |.rat q n=>some (q,n)
 |.agg [.bool false,.mag 0,.mag 0]=>some (0,1)
 |_=>none
theorem jo {v:AV} {a:Rat×Nat} (h:iP v=some a):bw v (rA a.1 a.2):=by
 unfold iP at h
 split at h
 ·simp only[Option.some.injEq]at h;subst h;exact .refl _
 ·simp only[Option.some.injEq]at h;subst h;exact lf
 ·simp at h
def HY:AV→Option ((V3×Nat)×List Prop)
 |.agg [x,y,z]=>match iP x,iP y,iP z with
  |some (x,a),some (y,b),some (z,c)=>some ((⟨x,y,z⟩,a),[b≤a,c≤a])
  |_,_,_=>none
 |_=>none
theorem agM {v:AV} {a:V3×Nat} {q:List Prop} (h:HY v=some (a,q)) (hq:ax q):bw v (vA a.1 a.2):=by
 unfold HY at h
 split at h
 ·split at h
  ·rename_i h1 h2 h3
   simp only[Option.some.injEq,Prod.mk.injEq]at h
   obtain⟨rfl,rfl⟩:=h
   exact cB ⟨jo h1,(jo h2).trans (bG rfl hq.1),(jo h3).trans (bG rfl hq.2),trivial⟩
  ·simp at h
 ·simp at h
def Cl:AV→Option ((Pl×Nat)×List Prop)
 |.agg [v,d]=>match HY v,iP d with
  |some ((v,a),q),some (d,b)=>some ((⟨v,d⟩,max a b),q)
  |_,_=>none
 |_=>none
theorem afF {v:AV} {a:Pl×Nat} {q:List Prop} (h:Cl v=some (a,q)) (hq:ax q):bw v (bI a.1 a.2):=by
 unfold Cl at h
 split at h
 ·split at h
  ·rename_i h1 h2
   simp only[Option.some.injEq,Prod.mk.injEq]at h
   obtain⟨rfl,rfl⟩:=h
   exact cB ⟨(agM h1 hq).trans (Di rfl (by simp only;omega)),(jo h2).trans (bG rfl (by simp only;omega)),trivial⟩
  ·simp at h
 ·simp at h
def Eh (v:AV):Option ((Rat×Nat)×List Prop):=match iP v with
 |some a=>some (a,[])
 |none=>none
theorem agx {v:AV} {a:Rat×Nat} {q:List Prop} (h:Eh v=some (a,q)) (_:ax q):bw v (rA a.1 a.2):=by
 unfold Eh at h
 split at h
 ·rename_i h1
  simp only[Option.some.injEq,Prod.mk.injEq]at h
  obtain⟨rfl,rfl⟩:=h
  exact jo h1
 ·simp at h
def ER:AV→Option (Int×List Prop)
 |.int .i64 n=>some (n,[])
 |_=>none
theorem RJ {v:AV} {a:Int} {q:List Prop} (h:ER v=some (a,q)) (_:ax q):bw v (.int .i64 a):=by
 unfold ER at h
 split at h
 ·simp only[Option.some.injEq,Prod.mk.injEq]at h
  obtain⟨rfl,rfl⟩:=h
  exact .refl _
 ·simp at h
def kR:Kind (Rat×Nat):=⟨Eh,fun a=>rA a.1 a.2,agx⟩
def ZH:Kind (Pl×Nat):=⟨Cl,fun a=>bI a.1 a.2,afF⟩
def kI:Kind Int:=⟨ER,fun a=>.int .i64 a,RJ⟩
section specs
variable {α β γ δ:Type} {f:FuncId}
def Iw (k:Kind α) (g:α→AV) (need:α→List Prop):Spec:=bE fun l=>match l with
 |[x]=>match k.read x with
  |some (a,p)=>some (aG (g a) (p++need a))
  |none=>none
 |_=>none
theorem PC {k:Kind α} {g:α→AV} {need:α→List Prop} (h:∀a K,ax (need a)→aA P f K [k.make a] [] (aG (g a) [])):∀K args pre r,Iw k g need K args pre=some r→aA P f K args pre r:=by
 refine bX fun K args r hk hs _=>?_
 split at hs
 ·split at hs
  ·rename_i h1
   simp only[Option.some.injEq]at hs
   subst hs
   intro hn
   obtain⟨n1,hn⟩:=er.1 hn
   exact fO (h _ K hn) hk ⟨k.ok h1 n1,trivial⟩ [] trivial
  ·simp at hs
 ·simp at hs
def ic (k:Kind α) (k2:Kind β) (g:α→β→AV) (need:α→β→List Prop):Spec:=bE fun l=>match l with
 |[x,y]=>match k.read x,k2.read y with
  |some (a,p),some (b,q)=>some (aG (g a b) (p++(q++need a b)))
  |_,_=>none
 |_=>none
theorem iF {k:Kind α} {k2:Kind β} {g:α→β→AV} {need:α→β→List Prop} (h:∀a b K,ax (need a b)→aA P f K [k.make a,k2.make b] [] (aG (g a b) [])):∀K args pre r,ic k k2 g need K args pre=some r→aA P f K args pre r:=by
 refine bX fun K args r hk hs _=>?_
 split at hs
 ·split at hs
  ·rename_i h1 h2
   simp only[Option.some.injEq]at hs
   subst hs
   intro hn
   obtain⟨n1,hn⟩:=er.1 hn
   obtain⟨n2,hn⟩:=er.1 hn
   exact fO (h _ _ K hn) hk ⟨k.ok h1 n1,k2.ok h2 n2,trivial⟩ [] trivial
  ·simp at hs
 ·simp at hs
end specs
def qn (a b:Rat×Nat):List Prop:=[a.2<2^42,b.2<2^42]
def nI (a b:Rat×Nat):List Prop:=[a.2<2^41,b.2<2^41]
def lF (a b:Rat×Nat):AV:=rA (a.1+b.1) (a.2+b.2+1)
def De (a b:Rat×Nat):AV:=rA (a.1-b.1) (a.2+b.2+1)
def BB (a b:Rat×Nat):AV:=rA (a.1*b.1) (a.2+b.2)
def BA (a b:Rat×Nat):AV:=.tuple [rA (a.1/b.1) (a.2+b.2),.int .i64 (if b.1=0 then 3 else 0)]
def adO (a b:Rat×Nat):AV:=rA (CS a.1 b.1) (max a.2 b.2)
def acy (a b:Rat×Nat):AV:=rA (BN a.1 b.1) (max a.2 b.2)
def DK (a b:Rat×Nat):AV:=.int .i64 (dc a.1 b.1)
def DT (a b:Rat×Nat):AV:=.bool (decide (a.1=b.1))
def Eb (a:Rat×Nat):AV:=.int .i64 (ey a.1)
abbrev Fp:FuncId×Spec:=(qC,KU)
def gb:aS:=[(wo,ic kR kR lF qn),(zT,ic kR kR De qn),(AI,ic kR kR BB qn),(fW,ic kR kR DT qn),(jD,ic kR kR DK qn),(qp,Iw kR Eb fun a=>[a.2<2^42]),Fp]
def o7:aS:=[(qj,ic kR kR lF nI),(AY,ic kR kR De nI),(AW,ic kR kR BB nI),(xM,ic kR kR DT nI),(yu,ic kR kR DK nI),(rI,Iw kR Eb fun a=>[a.2<2^41]),(mR,AG)]
theorem agZ:∀K args pre r,Fp.2 K args pre=some r→aA P Fp.1 K args pre r:=ah8
theorem gY:aW P gb:=aH (iF fun _ _ K hn=>KN hn.1 hn.2 K) (aH (iF fun _ _ K hn=>M5 hn.1 hn.2 K) (aH (iF fun _ _ K hn=>JZ hn.1 hn.2 K)
 (aH (iF fun _ _ K hn=>Je (Nat.lt_trans hn.1 (by omega)) (Nat.lt_trans hn.2 (by omega)) K []) (aH (iF fun _ _ K hn=>G8 hn.1 hn.2 K []) (aH (PC fun _ K hn=>Ew (Nat.lt_trans hn (by omega)) K []) (aH agZ bp))))))
theorem qJ:aW P o7:=aH (iF fun _ _ K hn=>EG hn.1 hn.2 K) (aH (iF fun _ _ K hn=>Jw hn.1 hn.2 K) (aH (iF fun _ _ K hn=>Pk hn.1 hn.2 K)
 (aH (iF fun _ _ K hn=>Kr (Nat.lt_trans hn.1 (by omega)) (Nat.lt_trans hn.2 (by omega)) K []) (aH (iF fun _ _ K hn=>LF hn.1 hn.2 K) (aH (PC fun _ K _=>Il K []) (aH D8 bp))))))
end Go.Am.B

/- aS for numbers of known size: the numbers. -/
namespace Go.Am.B
open Go Go.Am.N AV
structure Kd (α:Type) where
 read:AV→Option α
 make:α→AV
 ok:∀{v:AV} {a:α},read v=some a→bw v (make a)
def It:AV→Option (V3×Nat)
 |.agg [x,y,z]=>match iP x,iP y,iP z with
  |some (x,a),some (y,b),some (z,c)=>some (⟨x,y,z⟩,max a (max b c))
  |_,_,_=>none
 |_=>none
theorem Rw {v:AV} {a:V3×Nat} (h:It v=some a):bw v (vA a.1 a.2):=by
 unfold It at h
 split at h
 ·split at h
  ·rename_i h1 h2 h3
   simp only[Option.some.injEq]at h
   subst h
   exact cB ⟨(jo h1).trans (bG rfl (by simp only;omega)),(jo h2).trans (bG rfl (by simp only;omega)),(jo h3).trans (bG rfl (by simp only;omega)),trivial⟩
  ·simp at h
 ·simp at h
def dR:Kd (Rat×Nat):=⟨iP,fun a=>rA a.1 a.2,jo⟩
def dV:Kd (V3×Nat):=⟨It,fun a=>vA a.1 a.2,Rw⟩
section specs
variable {α β γ δ:Type} {f:FuncId}
def EN (k:Kd α) (g:α→AV) (B:α→Bool):Spec:=bE fun l=>match l with
 |[x]=>match k.read x with
  |some a=>match B a with
   |true=>some (aG (g a) [])
   |false=>none
  |_=>none
 |_=>none
theorem Qj {k:Kd α} {g:α→AV} {B:α→Bool} (h:∀a K,B a=true→aA P f K [k.make a] [] (aG (g a) [])):∀K args pre r,EN k g B K args pre=some r→aA P f K args pre r:=by
 refine bX fun K args r hk hs _=>?_
 split at hs
 ·split at hs
  ·rename_i h1
   split at hs
   ·rename_i hB
    simp only[Option.some.injEq]at hs
    subst hs
    exact fO (h _ K hB) hk ⟨k.ok h1,trivial⟩ []
   ·simp at hs
  ·simp at hs
 ·simp at hs
def jz (k:Kd α) (k2:Kd β) (g:α→β→AV) (B:α→β→Bool):Spec:=bE fun l=>match l with
 |[x,y]=>match k.read x,k2.read y with
  |some a,some b=>match B a b with
   |true=>some (aG (g a b) [])
   |false=>none
  |_,_=>none
 |_=>none
theorem jP {k:Kd α} {k2:Kd β} {g:α→β→AV} {B:α→β→Bool} (h:∀a b K,B a b=true→aA P f K [k.make a,k2.make b] [] (aG (g a b) [])):∀K args pre r,jz k k2 g B K args pre=some r→aA P f K args pre r:=by
 refine bX fun K args r hk hs _=>?_
 split at hs
 ·split at hs
  ·rename_i h1 h2
   split at hs
   ·rename_i hB
    simp only[Option.some.injEq]at hs
    subst hs
    exact fO (h _ _ K hB) hk ⟨k.ok h1,k2.ok h2,trivial⟩ []
   ·simp at hs
  ·simp at hs
 ·simp at hs
end specs
def b1 {α:Type} (e:Nat) (a:α×Nat):Bool:=Nat.blt a.2 (2^e)
def b2 {α β:Type} (e:Nat) (a:α×Nat) (b:β×Nat):Bool:=Nat.blt a.2 (2^e)&&Nat.blt b.2 (2^e)
def b3 {α β γ:Type} (e:Nat) (a:α×Nat) (b:β×Nat) (c:γ×Nat):Bool:=Nat.blt a.2 (2^e)&&(Nat.blt b.2 (2^e)&&Nat.blt c.2 (2^e))
theorem Nc {a b:Nat}:Nat.blt a b=true↔a<b:=by rw[Nat.blt_eq]
theorem ahA {α:Type} {e:Nat} {a:α×Nat} (h:b1 e a=true):a.2<2^e:=Nc.1 h
theorem fh {α β:Type} {e:Nat} {a:α×Nat} {b:β×Nat} (h:b2 e a b=true):a.2<2^e∧b.2<2^e:=by
 simp only[b2,Bool.and_eq_true,Nc]at h;exact h
def DG:Spec:=bE fun l=>match l with
 |[.int .i64 n]=>match decide (-2^63≤n∧n<2^63)with
  |true=>some (aG (.rat (n:Rat) (max 1 (bu n.natAbs))) [])
  |false=>none
 |_=>none
abbrev FA:FuncId×Spec:=(qC,DG)
abbrev Ep:FuncId×Spec:=(Dh,jz dR dR adO (b2 42))
abbrev Hg:FuncId×Spec:=(C7,jz dR dR acy (b2 42))
def FF:aS:=[(wo,jz dR dR lF (b2 42)),(zT,jz dR dR De (b2 42)),(AI,jz dR dR BB (b2 42)),(fW,jz dR dR DT (b2 42)),(jD,jz dR dR DK (b2 42)),(qp,EN dR Eb (b1 42)),FA,(uy,jz dR dR BA (b2 42)),Ep,Hg]
def nL:aS:=[(qj,jz dR dR lF (b2 41)),(AY,jz dR dR De (b2 41)),(AW,jz dR dR BB (b2 41)),(xM,jz dR dR DT (b2 41)),(yu,jz dR dR DK (b2 41)),(rI,EN dR Eb (b1 41)),(mR,DG)]
theorem Gc {n:Nat} (h:n<2^42):n<2^44:=Nat.lt_trans h (by omega)
theorem I7 {n:Nat} (h:n<2^41):n<2^44:=Nat.lt_trans h (by omega)
theorem GJ {f:FuncId} (h:∀{n:Int},-2^63≤n→n<2^63→∀K,aA P f K [.int .i64 n] [] (aG (.rat (n:Rat) (max 1 (bu n.natAbs))) [])):∀K args pre r,DG K args pre=some r→aA P f K args pre r:=by
 refine bX fun K args r hk hs _=>?_
 split at hs
 ·split at hs
  ·rename_i hc
   simp only[Option.some.injEq]at hs
   subst hs
   have:=of_decide_eq_true hc
   exact h this.1 this.2 K
  ·simp at hs
 ·simp at hs
theorem Ta:∀K args pre r,FA.2 K args pre=some r→aA P FA.1 K args pre r:=GJ HG
theorem SH:∀K args pre r,Ep.2 K args pre=some r→aA P Ep.1 K args pre r:=jP fun _ _ K hn=>acS (fh hn).1 (fh hn).2 K
theorem VL:∀K args pre r,Hg.2 K args pre=some r→aA P Hg.1 K args pre r:=jP fun _ _ K hn=>VP (fh hn).1 (fh hn).2 K
theorem La:aW P FF:=aH (jP fun _ _ K hn=>KN (fh hn).1 (fh hn).2 K) (aH (jP fun _ _ K hn=>M5 (fh hn).1 (fh hn).2 K) (aH (jP fun _ _ K hn=>JZ (fh hn).1 (fh hn).2 K)
 (aH (jP fun _ _ K hn=>Je (Gc (fh hn).1) (Gc (fh hn).2) K []) (aH (jP fun _ _ K hn=>G8 (fh hn).1 (fh hn).2 K []) (aH (Qj fun _ K hn=>Ew (Gc (ahA hn)) K []) (aH Ta
 (aH (jP fun _ _ K hn=>Ht (fh hn).1 (fh hn).2 K) (aH SH (aH VL bp)))))))))
theorem oG:aW P nL:=aH (jP fun _ _ K hn=>EG (fh hn).1 (fh hn).2 K) (aH (jP fun _ _ K hn=>Jw (fh hn).1 (fh hn).2 K) (aH (jP fun _ _ K hn=>Pk (fh hn).1 (fh hn).2 K)
 (aH (jP fun _ _ K hn=>Kr (I7 (fh hn).1) (I7 (fh hn).2) K []) (aH (jP fun _ _ K hn=>LF (fh hn).1 (fh hn).2 K) (aH (Qj fun _ K _=>Il K []) (aH (GJ Kx) bp))))))
end Go.Am.B

/- ref02: Quo, Over. -/
namespace Go.Am.B
open Go Go.Am.N AV
theorem YP:aP P CE uW (au uW):=aQ agB (by kernel_rfl) (by kernel_rfl) (by kernel_rfl)
theorem acq:aP P r9 yq (au yq):=aQ TK (by kernel_rfl) (by kernel_rfl) (by kernel_rfl)
theorem aik {q r:Rat} {n m:Nat}:bC T qq [9] 60 uW (au uW) ⟨aN 0 [.rat q n,.rat r m],[],0⟩=
  some (aa.ag [(0:Nat)<1] (aa.fork ((↑(nl r.num.natAbs):Int)==(0:Int)) (aa.ag [(0:Nat)<1] (aa.ag [(0:Nat)<1] (aa.leaf ak.ret [agg [AV.bool false,mag 0,mag 0],int IntKind.i64 (3:Int)]))) (aa.ag [(0:Nat)<1,(0:Nat)<1,(0:Nat)<1,(0:Nat)<1,nl q.num.natAbs<2^39,nl r.den<2^39,(0:Nat)<1,(0:Nat)<1,nl q.den<2^39,nl r.num.natAbs<2^39,nl (q.num.natAbs*r.den)<2^38,nl (q.den*r.num.natAbs)<2^38,q.den*r.num.natAbs≠0,(0:Nat)<1] (aa.ag [(0:Nat)<1] (aa.leaf ak.ret [rat (sQ (decide (q<0)!=decide (r<0)) (q.num.natAbs*r.den) (q.den*r.num.natAbs)) (cz (sQ (decide (q<0)!=decide (r<0)) (q.num.natAbs*r.den) (q.den*r.num.natAbs))),int IntKind.i64 (0:Int)]))))):=by kernel_rfl
theorem ahP {q r:Rat} {n m:Nat} (hn:n<2^41) (hm':m<2^41) (K:Nat):aA P CE K [.rat q n,.rat r m] [] (aG (.tuple [.rat (q/r) (n+m),.int .i64 (if r=0 then 3 else 0)]) []):=by
 refine iC fun⟨hq,hr,_⟩=>?_
 have hq:Sz q n:=hq
 have hr:Sz r m:=hr
 have d1:=q.den_nz
 have d2:=r.den_nz
 have a1:nl q.num.natAbs<2^38:=e9 hq.1 (by omega)
 have a2:nl q.den<2^38:=e9 hq.2 (by omega)
 have b1:nl r.num.natAbs<2^38:=e9 hr.1 (by omega)
 have b2:nl r.den<2^38:=e9 hr.2 (by omega)
 have m1:nl (q.num.natAbs*r.den)<2^38:=e9 (mX hq.1 hr.2) (by omega)
 have m3:nl (q.den*r.num.natAbs)<2^38:=e9 (mX hq.2 hr.1) (by omega)
 refine bJ hT sr hm YP rfl (of_decide_eq_true (by kernel_rfl)) rfl 60 aik (fun _=>?_) K []
 have key:((nl r.num.natAbs:Int)==(0:Int))=decide (r=0):=by
  by_cases h:r=0
  ·subst h;rfl
  ·have h1:r.num.natAbs≠0:=fun e=>h (me.1 e)
   have:=fB.2 h1
   simp only[h,decide_false,beq_eq_false_iff_ne];omega
 rw[key]
 simp only[aa.all,ax,decide_eq_true_eq,decide_eq_false_iff_not]
 refine⟨by omega,fun h0=>?_,fun h0=>?_⟩
 ·refine⟨by omega,by omega,?_,bt (by rw[if_pos h0]),trivial⟩
  have e:q/r=0:=by rw[h0,Rat.div_def,Rat.inv_zero,Rat.mul_zero]
  obtain⟨k,hk⟩:∃k,n+m=k+1:=⟨n+m-1,by have:=hq.pos;omega⟩
  rw[e,hk]
  first|exact lf|exact fe (by omega)
 ·have hr0:r.num.natAbs≠0:=fun h=>h0 (me.1 h)
  have hv:=Gn q r h0
  (repeat' with_reducible refine And.intro ?_ ?_)
  all_goals first|omega|exact m1|exact m3|exact Nat.mul_ne_zero d1 hr0|skip
  exact⟨ew hv (hq.div hr),bt (by rw[if_neg h0]),trivial⟩
def ML:aS:=[(CE,ic kR kR BA nI)]
theorem Vz:aW P ML:=aH (iF fun _ _ K hn=>ahP hn.1 hn.2 K) bp
theorem Zc {q r:Rat} {n m:Nat}:bC T ML [] 60 yq (au yq) ⟨aN 0 [.rat q n,.rat r m],[],0⟩=
  some (aa.ag [(0:Nat)<1,(0:Nat)<1,n<2^41,m<2^41,(0:Nat)<1] (aa.ag [(0:Nat)<1,(0:Nat)<1] (aa.ag [(0:Nat)<1] (aa.leaf ak.ret [rat (q/r) (n+m)])))):=by kernel_rfl
theorem Hx {q r:Rat} {n m:Nat} (hn:n<2^41) (hm':m<2^41) (K:Nat):aA P r9 K [.rat q n,.rat r m] [] (aG (.rat (q/r) (n+m)) []):=by
 refine bJ hT Vz hm acq rfl (of_decide_eq_true (by kernel_rfl)) rfl 60 Zc (fun _=>?_) K []
 simp only[aa.all,ax]
 (repeat' with_reducible refine And.intro ?_ ?_)
 all_goals first|omega|exact bw.refl _
def E7 (a b:Rat×Nat):AV:=rA (a.1/b.1) (a.2+b.2)
end Go.Am.B

/- Plain laws of gl and B-spline functions: no program in sight. -/
namespace Go.Am.B
def mU (n:Nat) (f:Nat→Rat):Rat:=match n with
 |0=>0
 |n+1=>mU n f+f n
structure Kn (n p:Nat) (k:Nat→Rat):Prop where
 p1:1≤p
 len:2*p+2≤n
 sorted:∀i,i+1<n→k i≤k (i+1)
 first:∀i,i≤p→k i=k 0
 last:∀i,n≤i+p+1→i<n→k i=k (n-1)
 mult:∀i,1≤i→i+p+1<n→k i<k (i+p)
theorem fS {n:Nat} {k:Nat→Rat} (h:∀i,i+1<n→k i≤k (i+1)) {i:Nat}:∀{j:Nat},i≤j→j<n→k i≤k j
 |0,hij,_=>by
    have:i=0:=by omega
    subst this;exact Rat.le_refl
 |j+1,hij,hj=>by
  by_cases he:i=j+1
  ·subst he;exact Rat.le_refl
  ·exact Rat.le_trans (fS h (j:=j) (by omega) (by omega)) (h j hj)
theorem Kn.mono {n p:Nat} {k:Nat→Rat} (h:Kn n p k) {i j:Nat} (hij:i≤j) (hj:j<n):k i≤k j:=fS h.sorted hij hj
def fr (a b t:Rat):Rat:=(t-a)/(b-a)
theorem l6 {a b t:Rat} (h:a<b):fr a b t*(b-a)=t-a:=by
 unfold fr;rw[Rat.div_mul_cancel];intro e;grind
theorem LW {a b:Rat}:fr a b a=0:=by
 unfold fr;rw[Rat.sub_self,Rat.div_def,Rat.zero_mul]
theorem aiT {a b:Rat} (h:a<b):fr a b b=1:=by
 unfold fr;rw[Rat.div_def,Rat.mul_inv_cancel];intro e;grind
theorem afS {a b t:Rat} (h:a<b) (h0:a≤t):0≤fr a b t:=by
 have e:=l6 (t:=t) h
 rcases Rat.le_total (a:=0) (b:=fr a b t)with h1|h1
 ·exact h1
 ·by_cases h2:fr a b t=0
  ·rw[h2];exact Rat.le_refl
  ·have:=Rat.mul_pos (a:=-fr a b t) (b:=b-a) (by grind) (by grind)
   grind
theorem ai3 {a b t:Rat} (h:a<b) (h0:t≤b):fr a b t≤1:=by
 have e:=l6 (t:=t) h
 rcases Rat.le_total (a:=fr a b t) (b:=1)with h1|h1
 ·exact h1
 ·by_cases h2:fr a b t=1
  ·rw[h2];exact Rat.le_refl
  ·have:=Rat.mul_pos (a:=fr a b t-1) (b:=b-a) (by grind) (by grind)
   grind
def vB (k:Nat→Rat) (i:Nat) (t:Rat):Nat→Nat→Rat
 |0,j=>if j=0 then 1 else 0
 |d+1,j=>(if j=0 then 0 else fr (k (i-d+(j-1))) (k (i-d+(j-1)+(d+1))) t*vB k i t d (j-1))+
   (if j≤d then(1-fr (k (i-d+j)) (k (i-d+j+(d+1))) t)*vB k i t d j else 0)
structure At (n:Nat) (k:Nat→Rat) (i:Nat):Prop where
 lt:i+1<n
 sorted:∀i,i+1<n→k i≤k (i+1)
 wide:k i<k (i+1)
theorem At.around {n:Nat} {k:Nat→Rat} {i:Nat} (h:At n k i) {a b:Nat} (ha:a≤i) (hb:i<b) (hn:b<n):k a<k b:=by
 have h1:=fS h.sorted ha (show i<n by have:=h.lt;omega)
 have h2:=fS h.sorted (show i+1≤b by omega) hn
 have h3:=h.wide
 grind
end Go.Am.B

/- Plain laws of polar forms: symmetric, affine; of gl: the coefficient; of equal arguments: the spline. -/
namespace Go.Am.B
def gn (k:Nat→Rat) (b p r:Nat) (t:Rat) (x:Nat→Rat) (j:Nat):Rat:=
 if r<j then x (j-1)+fr (k (b+j)) (k (b+j+(p-r))) t*(x j-x (j-1))else x j
def bl (k:Nat→Rat) (b p:Nat):Nat→(Nat→Rat)→List Rat→Nat→Rat
 |_,x,[]=>x
 |r,x,t::l=>bl k b p (r+1) (gn k b p r t x) l
def bQ (t:Nat→Rat):Nat→Nat→List Rat
 |_,0=>[]
 |a,l+1=>t a::bQ t (a+1) l
def bR (k:Nat→Rat) (b p:Nat) (t:Nat→Rat) (x:Nat→Rat):Nat→Nat→Rat
 |0=>x
 |r+1=>gn k b p r (t r) (bR k b p t x r)
variable {k:Nat→Rat} {b p:Nat}
theorem Oc {t x:Nat→Rat}:∀{l r:Nat},bl k b p r (bR k b p t x r) (bQ t r l)=bR k b p t x (r+l)
 |0,r=>rfl
 |l+1,r=>by
  have:=Oc (t:=t) (x:=x) (l:=l) (r:=r+1)
  rw[show r+(l+1)=r+1+l by omega,←this];rfl
theorem QB {t x:Nat→Rat} {l:Nat}:bR k b p t x l=bl k b p 0 x (bQ t 0 l):=by
 have:=Oc (k:=k) (b:=b) (p:=p) (t:=t) (x:=x) (l:=l) (r:=0)
 rw[Nat.zero_add]at this
 exact this.symm
theorem G9:∀{l:List Rat} {r:Nat} {x y:Nat→Rat},r+l.length=p→(∀j,r≤j→j≤p→x j=y j)→bl k b p r x l p=bl k b p r y l p
 |[],r,x,y,hl,h=>h p (by simp at hl;omega) (Nat.le_refl _)
 |t::l,r,x,y,hl,h=>by
  refine G9 (l:=l) (r:=r+1) (by simp at hl;omega) fun j h1 h2=>?_
  unfold gn
  rw[if_pos (by omega),if_pos (by omega),h j (by omega) h2,h (j-1) (by omega) (by omega)]
theorem Jy {x y u v:Rat} (hu:u≠0) (hv:v≠0) (h:x*(u*v)=y*(u*v)):x=y:=by
 have:(x-y)*(u*v)=0:=by grind
 simp only[Rat.mul_eq_zero]at this
 rcases this with h1|h1|h1
 ·grind
 ·exact absurd h1 hu
 ·exact absurd h1 hv
theorem acF {a1 a2 b1 b2 s t x0 x1 x2:Rat} (h1:a1<b1) (h2:a2<b1) (h3:a2<b2):
  x0+fr a1 b1 s*(x1-x0)+fr a2 b1 t*(x1+fr a2 b2 s*(x2-x1)-(x0+fr a1 b1 s*(x1-x0)))=
   x0+fr a1 b1 t*(x1-x0)+fr a2 b1 s*(x1+fr a2 b2 t*(x2-x1)-(x0+fr a1 b1 t*(x1-x0))):=by
 have n1:b1-a1≠0:=by intro e;grind
 have n2:b1-a2≠0:=by intro e;grind
 have n3:b2-a2≠0:=by intro e;grind
 have e1:=l6 (t:=s) h1
 have e2:=l6 (t:=t) h1
 have e3:=l6 (t:=s) h2
 have e4:=l6 (t:=t) h2
 have e5:=l6 (t:=s) h3
 have e6:=l6 (t:=t) h3
 generalize fr a1 b1 s=f1s at*
 generalize fr a1 b1 t=f1t at*
 generalize fr a2 b1 s=gs at*
 generalize fr a2 b1 t=gt at*
 generalize fr a2 b2 s=f2s at*
 generalize fr a2 b2 t=f2t at*
 have c0:(1-gt)*(1-f1s)=(1-gs)*(1-f1t):=by
  refine Jy n2 n1 ?_
  have q1:(1-gt)*(b1-a2)=b1-t:=by grind
  have q2:(1-f1s)*(b1-a1)=b1-s:=by grind
  have q3:(1-gs)*(b1-a2)=b1-s:=by grind
  have q4:(1-f1t)*(b1-a1)=b1-t:=by grind
  have l1:(1-gt)*(1-f1s)*((b1-a2)*(b1-a1))=((1-gt)*(b1-a2))*((1-f1s)*(b1-a1)):=by grind
  have l2:(1-gs)*(1-f1t)*((b1-a2)*(b1-a1))=((1-gs)*(b1-a2))*((1-f1t)*(b1-a1)):=by grind
  rw[l1,l2,q1,q2,q3,q4];grind
 have c2:gt*f2s=gs*f2t:=by
  refine Jy n2 n3 ?_
  have l1:gt*f2s*((b1-a2)*(b2-a2))=(gt*(b1-a2))*(f2s*(b2-a2)):=by grind
  have l2:gs*f2t*((b1-a2)*(b2-a2))=(gs*(b1-a2))*(f2t*(b2-a2)):=by grind
  rw[l1,l2,e3,e4,e5,e6];grind
 have f1:x0+f1s*(x1-x0)+gt*(x1+f2s*(x2-x1)-(x0+f1s*(x1-x0)))=((1-gt)*(1-f1s))*x0+(1-(1-gt)*(1-f1s)-gt*f2s)*x1+(gt*f2s)*x2:=by grind
 have f2:x0+f1t*(x1-x0)+gs*(x1+f2t*(x2-x1)-(x0+f1t*(x1-x0)))=((1-gs)*(1-f1t))*x0+(1-(1-gs)*(1-f1t)-gs*f2t)*x1+(gs*f2t)*x2:=by grind
 rw[f1,f2,c0,c2]
variable {n:Nat}
theorem RA (h:At n k (b+p)) (hn:b+p+p<n) {s t:Rat} {x:Nat→Rat} {r j:Nat} (h1:r+2≤j) (h2:j≤p):
  gn k b p (r+1) t (gn k b p r s x) j=gn k b p (r+1) s (gn k b p r t x) j:=by
 have a1:=h.around (a:=b+(j-1)) (b:=b+(j-1)+(p-r)) (by omega) (by omega) (by omega)
 have a2:=h.around (a:=b+j) (b:=b+j+(p-(r+1))) (by omega) (by omega) (by omega)
 have a3:=h.around (a:=b+j) (b:=b+j+(p-r)) (by omega) (by omega) (by omega)
 have e:b+j+(p-(r+1))=b+(j-1)+(p-r):=by omega
 rw[e]at a2
 simp only[gn]
 rw[if_pos (by omega),if_pos (by omega),if_pos (by omega),if_pos (by omega),if_pos (by omega),if_pos (by omega),e]
 exact acF a1 a2 a3
theorem BV (h:At n k (b+p)) (hn:b+p+p<n) {l m:List Rat} (hp:l.Perm m):∀{r:Nat} {x:Nat→Rat},r+l.length=p→bl k b p r x l p=bl k b p r x m p:=by
 induction hp with
 |nil=>intro r x _;rfl
 |cons t _ ih=>intro r x hl;exact ih (by simp at hl;omega)
 |swap s t l=>
  intro r x hl
  refine G9 (l:=l) (r:=r+2) (by simp at hl;omega) fun j h1 h2=>?_
  exact RA h hn h1 h2
 |trans h1 h2 ih1 ih2=>intro r x hl;rw[ih1 hl,ih2 (by rw[←h1.length_eq];exact hl)]
def pz (t:Nat→Rat) (a:Nat):Nat→List Rat
 |0=>[]
 |l+1=>t (a+l)::pz t a l
theorem Br {t:Nat→Rat}:∀{l a:Nat},bQ t a (l+1)=bQ t a l++[t (a+l)]
 |0,a=>rfl
 |l+1,a=>by
  rw[bQ,Br (l:=l) (a:=a+1),bQ,List.cons_append,show a+1+l=a+(l+1) by omega]
theorem EV {t:Nat→Rat} {a:Nat}:∀{l:Nat},(pz t a l).Perm (bQ t a l)
 |0=>.nil
 |l+1=>by
  rw[Br,pz]
  exact((EV (l:=l)).cons _).trans (List.perm_append_singleton _ _).symm
theorem CX {t:Nat→Rat} {m:Nat}:∀{l a:Nat},bQ t a (l+m)=bQ t a l++bQ t (a+l) m
 |0,a=>by rw[Nat.zero_add];rfl
 |l+1,a=>by
  rw[show l+1+m=(l+m)+1 by omega,bQ,CX (l:=l) (a:=a+1),bQ,List.cons_append,show a+1+l=a+(l+1) by omega]
theorem kT {t:Nat→Rat}:∀{l a:Nat},(bQ t a l).length=l
 |0,_=>rfl
 |l+1,a=>by rw[bQ,List.length_cons,kT]
theorem S6 {l m:List Rat}:∀{r:Nat} {x:Nat→Rat},bl k b p r x (l++m)=bl k b p (r+l.length) (bl k b p r x l) m:=by
 induction l with
 |nil=>intro r x;rfl
 |cons t l ih=>
  intro r x
  rw[List.cons_append,bl,ih,bl,List.length_cons,show r+1+l.length=r+(l.length+1) by omega]
theorem Mi (h:At n k (b+p)) (hn:b+p+p<n) {J:Nat} (hJ:J≤p):∀{l r:Nat} {x:Nat→Rat},r+l=J→bl k b p r x (pz k (b+p+1) l) J=x J
 |0,r,x,_=>rfl
 |l+1,r,x,hr=>by
  rw[pz,bl,Mi h hn hJ (l:=l) (r:=r+1) (by omega)]
  unfold gn
  have a1:=h.around (a:=b+J) (b:=b+J+(p-r)) (by omega) (by omega) (by omega)
  rw[if_pos (by omega),show b+p+1+l=b+J+(p-r) by omega,aiT a1];grind
theorem J3 {J:Nat}:∀{l q:Nat} {x:Nat→Rat},bl k b p (J+q) x (bQ k (b+J+1+q) l) (J+q+l)=x (J+q)
 |0,q,x=>rfl
 |l+1,q,x=>by
  have ih:=J3 (J:=J) (l:=l) (q:=q+1) (x:=gn k b p (J+q) (k (b+J+1+q)) x)
  rw[bQ,bl,show J+q+(l+1)=J+(q+1)+l by omega,show J+q+1=J+(q+1) by omega,show b+J+1+q+1=b+J+1+(q+1) by omega,ih]
  unfold gn
  rw[if_pos (by omega),show b+J+1+q=b+(J+(q+1)) by omega,LW,show J+(q+1)-1=J+q by omega];grind
theorem aar (h:At n k (b+p)) (hn:b+p+p<n) {J:Nat} (hJ:J≤p) {x:Nat→Rat}:bl k b p 0 x (bQ k (b+J+1) p) p=x J:=by
 have e:bQ k (b+J+1) p=bQ k (b+J+1) (p-J)++bQ k (b+p+1) J:=by
  have:=CX (t:=k) (l:=p-J) (a:=b+J+1) (m:=J)
  rw[show p-J+J=p by omega,show b+J+1+(p-J)=b+p+1 by omega]at this
  exact this
 have hp:(bQ k (b+J+1) p).Perm (pz k (b+p+1) J++bQ k (b+J+1) (p-J)):=by
  rw[e]
  exact(List.perm_append_comm).trans ((EV).symm.append_right _)
 rw[BV h hn hp (by rw[kT];omega),S6]
 have hd:(pz k (b+p+1) J).length=J:=by rw[(EV).length_eq,kT]
 rw[hd,Nat.zero_add]
 have:=J3 (k:=k) (b:=b) (p:=p) (J:=J) (l:=p-J) (q:=0) (x:=bl k b p 0 x (pz k (b+p+1) J))
 simp only[Nat.add_zero]at this
 rw[show J+(p-J)=p by omega]at this
 rw[this]
 exact Mi h hn hJ (l:=J) (r:=0) (by omega)
end Go.Am.B

/- Plain laws of gl: the interval of a parameter; what a list of gl is made of. -/
namespace Go.Am.B
def j9 (g:Nat→Bool):Nat→Nat
 |0=>0
 |m+1=>if g m then m else j9 g m
theorem Me {g:Nat→Bool} {i:Nat} (hi:g i=true):∀{m:Nat},i<m→(∀j,i<j→j<m→g j=false)→j9 g m=i
 |0,h,_=>by omega
 |m+1,h,hn=>by
  unfold j9
  by_cases he:i=m
  ·subst he;rw[if_pos hi]
  ·rw[if_neg (by rw[hn m (by omega) (by omega)];decide),Me hi (m:=m) (by omega) fun j h1 h2=>hn j h1 (by omega)]
def bz (n:Nat) (k:Nat→Rat) (t:Rat):Nat:=j9 (fun i=>decide (k i<k (i+1))&&decide (k i≤t)) (n-1)
structure Ph (n:Nat) (k:Nat→Rat) (t:Rat) (i:Nat):Prop where
 at_:At n k i
 lo:k i≤t
 hi:t≤k (i+1)
 Md:t<k (i+1)∨k (i+1)=k (n-1)
theorem rR {n:Nat} {k:Nat→Rat} {t:Rat} {i:Nat} (h:Ph n k t i):bz n k t=i:=by
 have hw:=h.at_.wide
 have hlo:=h.lo
 refine Me (by simp[hw,hlo]) (by have:=h.at_.lt;omega) fun j h1 h2=>?_
 rcases h.Md with h3|h3
 ·have:=fS h.at_.sorted (show i+1≤j by omega) (show j<n by omega)
  have:¬k j≤t:=by grind
  simp[this]
 ·have a1:=fS h.at_.sorted (show i+1≤j by omega) (show j<n by omega)
  have a2:=fS h.at_.sorted (show j+1≤n-1 by omega) (show n-1<n by omega)
  have:¬k j<k (j+1):=by grind
  simp[this]
theorem Nf {g:Nat→Bool}:∀{m:Nat},(∃i,i<m∧g i=true)→g (j9 g m)=true∧j9 g m<m∧∀j,j9 g m<j→j<m→g j=false
 |0,⟨i,h,_⟩=>by omega
 |m+1,⟨i,h,hi⟩=>by
  unfold j9
  by_cases hm:g m=true
  ·rw[if_pos hm];exact⟨hm,by omega,fun j h1 h2=>by omega⟩
  ·rw[if_neg hm]
   have hi':i<m:=by
    by_cases he:i=m
    ·subst he;exact absurd hi hm
    ·omega
   obtain⟨a1,a2,a3⟩:=Nf (g:=g) (m:=m) ⟨i,hi',hi⟩
   refine⟨a1,by omega,fun j h1 h2=>?_⟩
   by_cases he:j=m
   ·subst he;simpa using hm
   ·exact a3 j h1 (by omega)
theorem Kn.Is {n p:Nat} {k:Nat→Rat} (h:Kn n p k) {t:Rat} (h0:k 0≤t) (h1:t≤k (n-1)):Ph n k t (bz n k t)∧p≤bz n k t∧bz n k t+p+1<n:=by
 have hp:=h.p1
 have hl:=h.len
 have hw:k p<k (p+1):=by
  have:=h.mult 1 (by omega) (by omega)
  rw[h.first 1 (by omega),show 1+p=p+1 by omega]at this
  rw[h.first p (by omega)];exact this
 obtain⟨a1,a2,a3⟩:=Nf (g:=fun i=>decide (k i<k (i+1))&&decide (k i≤t)) (m:=n-1) ⟨p,by omega,by rw[h.first p (by omega)]at*;simp[hw,h0]⟩
 have e:bz n k t=j9 (fun i=>decide (k i<k (i+1))&&decide (k i≤t)) (n-1):=rfl
 rw[←e]at a1 a2 a3
 generalize bz n k t=i at*
 simp only[Bool.and_eq_true,decide_eq_true_eq]at a1
 have hat:At n k i:=⟨by omega,h.sorted,a1.1⟩
 -- from the next knot on
 have key:t<k (i+1)∨k (i+1)=k (n-1):=by
  by_cases ht:t<k (i+1)
  ·exact .inl ht
  ·refine .inr ?_
   have step:∀j,i+1≤j→j≤n-1→k j=k (i+1):=by
    intro j hj1 hj2
    induction j with
    |zero=>omega
    |succ j ih=>
     by_cases hji:j+1=i+1
     ·rw[hji]
     ·have e1:=ih (by omega) (by omega)
      have:=a3 j (by omega) (by omega)
      have hs:=h.sorted j (by omega)
      by_cases hlt:k j<k (j+1)
      ·simp[hlt]at this
       grind
      ·grind
   exact(step (n-1) (by omega) (by omega)).symm
 have hi2:t≤k (i+1):=by rcases key with h2|h2<;>grind
 refine⟨⟨hat,a1.2,hi2,key⟩,?_,?_⟩
 ·by_cases hge:p≤i
  ·exact hge
  ·exfalso
   have:=h.first i (by omega)
   have:=h.first (i+1) (by omega)
   have:=a1.1
   grind
 ·by_cases hge:i+p+1<n
  ·exact hge
  ·exfalso
   have:=h.last i (by omega) (by omega)
   have:=h.last (i+1) (by omega) (by omega)
   have:=a1.1
   grind
end Go.Am.B

/- Plain laws of gl: how a list of valid gl is made, one knot after another. -/
namespace Go.Am.B
structure KG (p j:Nat) (k:Nat→Rat) (t:Rat):Prop where
 p1:1≤p
 first:∀i,i≤p→k i=k 0
 top:k (p+j)=t
 sorted:∀i,i<p+j→k i≤k (i+1)
 mult:∀i,1≤i→i≤j→k i<k (i+p)
 half:∀i,i≤p+j→∃z:Int,k i=(z:Rat)/2∧-4≤z∧z≤2+6*(j:Int)
def kJ (k:Nat→Rat) (m:Nat) (t:Rat):Nat→Rat:=fun i=>if i=m then t else k i
theorem uP {k:Nat→Rat} {m:Nat} {t:Rat}:kJ k m t m=t:=if_pos rfl
theorem lD {k:Nat→Rat} {m i:Nat} {t:Rat} (h:i≠m):kJ k m t i=k i:=if_neg h
theorem KG.start {p:Nat} (hp:1≤p) {z:Int} (h1:-2≤z) (h2:z≤1):KG p 0 (fun _=>(z:Rat)) (z:Rat) where
 p1:=hp
 first:=fun _ _=>rfl
 top:=rfl
 sorted:=fun _ _=>Rat.le_refl
 mult:=fun i h1 h2=>by omega
 half:=fun i _=>⟨2*z,by
  have:((2*z:Int):Rat)=2*(z:Rat):=by simp
  rw[this];grind,by omega,by omega⟩
theorem KG.le_top {p j:Nat} {k:Nat→Rat} {t:Rat} (h:KG p j k t) {i:Nat} (hi:i≤p+j):k i≤t:=by
 rw[←h.top]
 exact fS (n:=p+j+1) (fun i hi=>h.sorted i (by omega)) hi (by omega)
theorem KG.next {p j:Nat} {k:Nat→Rat} {t t':Rat} (h:KG p j k t) (hc:(t<t'∧∃z:Int,t'=t+(z:Rat)/2∧z≤6)∨(t'=t∧1≤j∧t≠k (j+1))):KG p (j+1) (kJ k (p+1+j) t') t':=by
 have hle:t≤t':=by
  rcases hc with⟨h1,_⟩|⟨h1,_⟩
  ·grind
  ·rw[h1];exact Rat.le_refl
 have hp:=h.p1
 refine⟨hp,fun i hi=>?_,?_,fun i hi=>?_,fun i h1 h2=>?_,fun i hi=>?_⟩
 ·rw[lD (by omega),lD (by omega)];exact h.first i hi
 ·rw[show p+(j+1)=p+1+j by omega,uP]
 ·by_cases he:i+1=p+1+j
  ·rw[he,uP,lD (by omega),show i=p+j by omega,h.top];exact hle
  ·rw[lD (by omega),lD he];exact h.sorted i (by omega)
 ·by_cases he:i=j+1
  ·subst he
   rw[show j+1+p=p+1+j by omega,uP,lD (by omega)]
   have:=h.le_top (i:=j+1) (by omega)
   rcases hc with⟨h3,_⟩|⟨h3,h4,h5⟩
   ·grind
   ·rw[h3];grind
  ·rw[lD (by omega),lD (by omega)];exact h.mult i h1 (by omega)
 ·by_cases he:i=p+1+j
  ·subst he
   rw[uP]
   obtain⟨z,e1,e2,e3⟩:=h.half (p+j) (by omega)
   rw[h.top]at e1
   rcases hc with⟨h3,y,e4,e5⟩|⟨h3,_⟩
   ·refine⟨z+y,?_,?_,by omega⟩
    ·rw[e4,e1]
     have:((z+y:Int):Rat)=(z:Rat)+(y:Rat):=by simp
     rw[this];grind
    ·have hy:0<y:=by
      rcases Int.lt_or_le 0 y with h6|h6
      ·exact h6
      ·exfalso
       have:((y:Int):Rat)≤0:=Rat.intCast_nonpos.2 h6
       grind
     omega
   ·exact⟨z,by rw[h3,e1],e2,by omega⟩
  ·rw[lD he]
   obtain⟨z,e1,e2,e3⟩:=h.half i (by omega)
   exact⟨z,e1,e2,by omega⟩
def lP (p j:Nat) (k:Nat→Rat) (t:Rat):Nat→Rat:=fun i=>if i<p+1+j then k i else t+1
theorem KG.done {p j:Nat} {k:Nat→Rat} {t:Rat} (h:KG p j k t):Kn (2*p+2+j) p (lP p j k t):=by
 have hp:=h.p1
 have lo:∀{i},i<p+1+j→lP p j k t i=k i:=fun hi=>if_pos hi
 have hi':∀{i},p+1+j≤i→lP p j k t i=t+1:=fun hi=>if_neg (by omega)
 refine⟨hp,by omega,fun i hi=>?_,fun i hi=>?_,fun i h1 h2=>?_,fun i h1 h2=>?_⟩
 ·by_cases h1:i+1<p+1+j
  ·rw[lo h1,lo (by omega)];exact h.sorted i (by omega)
  ·rw[hi' (i:=i+1) (by omega)]
   by_cases h2:i<p+1+j
   ·rw[lo h2]
    have:=h.le_top (i:=i) (by omega)
    grind
   ·rw[hi' (by omega)];exact Rat.le_refl
 ·rw[lo (i:=i) (by omega),lo (i:=0) (by omega)];exact h.first i hi
 ·rw[hi' (i:=i) (by omega),hi' (i:=2*p+2+j-1) (by omega)]
 ·by_cases h3:i+p<p+1+j
  ·rw[lo (by omega),lo h3];exact h.mult i h1 (by omega)
  ·rw[hi' (i:=i+p) (by omega),lo (i:=i) (by omega)]
   have:=h.le_top (i:=i) (by omega)
   grind
theorem KG.M0 {p j:Nat} {k:Nat→Rat} {t:Rat} (h:KG p j k t) (i:Nat):∃z:Int,lP p j k t i=(z:Rat)/2∧-4≤z∧z≤4+6*(j:Int):=by
 unfold lP
 split
 ·rename_i hi
  obtain⟨z,e1,e2,e3⟩:=h.half i (by omega)
  exact⟨z,e1,e2,by omega⟩
 ·obtain⟨z,e1,e2,e3⟩:=h.half (p+j) (by omega)
  rw[h.top]at e1
  refine⟨z+2,?_,by omega,by omega⟩
  have:((z+2:Int):Rat)=(z:Rat)+2:=by simp
  rw[e1,this];grind
end Go.Am.B

/- Lists of numbers as arguments. -/
namespace Go.Am.B
open AV
def aO:AV→Rat
 |.rat q _=>q
 |_=>0
def bK (f:Nat→AV) (n s:Nat):Prop:=∀i,i<n→bw (f i) (.rat (aO (f i)) s)
abbrev bq (k:Nat→Rat) (n s:Nat):AV:=.aj 3 n (fun i=>.rat (k i) s)
theorem ct {k:Nat→Rat} {n s s':Nat} (h:s≤s'):bK (fun i=>.rat (k i) s) n s':=fun _ _=>fe h
theorem Ig {f:Nat→AV} {n s:Nat} (h:bK f n s):bw (.aj 3 n f) (bq (fun i=>aO (f i)) n s):=fT h
def C1:AV→Option (Nat×(Nat→AV))
 |.aj 3 n f=>some (n,f)
 |.nil=>some (0,fun _=>.rat 0 1)
 |_=>none
theorem UI {v:AV} {n s:Nat} {f:Nat→AV} (h:C1 v=some (n,f)) (ha:bK f n s):bw v (bq (fun i=>aO (f i)) n s):=by
 unfold C1 at h
 split at h
 ·simp only[Option.some.injEq,Prod.mk.injEq]at h
  obtain⟨rfl,rfl⟩:=h
  exact Ig ha
 ·simp only[Option.some.injEq,Prod.mk.injEq]at h
  obtain⟨rfl,rfl⟩:=h
  exact kS (by omega)
 ·simp at h
end Go.Am.B

/- brepkernelmade: Rat, Within; lists of numbers as arguments. -/
namespace Go.Am.B
open Go Go.Am.N AV
theorem ajX:aP P Ii Cn (au Cn):=aQ XD (by kernel_rfl) (by kernel_rfl) (by kernel_rfl)
noncomputable def Ge:aS:=[(Ii,kX T (sG::(Dq,Oq)::nL) [] 60 Cn)]
theorem Qc:aW P Ge:=aH (mE hT (mT (aH VB oG)) hm ajX _ _) bp
def kL (s:Nat):Kind (Nat×(Nat→Rat)):=⟨fun v=>match C1 v with
 |some (n,f)=>some ((n,fun i=>aO (f i)),[bK f n s])
 |none=>none,fun a=>bq a.2 a.1 s,fun {v a q} h hq=>by
  split at h
  ·rename_i h1
   simp only[Option.some.injEq,Prod.mk.injEq]at h
   obtain⟨rfl,rfl⟩:=h
   exact UI h1 hq
  ·simp at h⟩
def fq (s:Nat):Kind Rat:=⟨fun v=>match iP v with
 |some (q,n)=>some (q,[n≤s])
 |none=>none,fun a=>.rat a s,fun {v a q} h hq=>by
  split at h
  ·rename_i h1
   simp only[Option.some.injEq,Prod.mk.injEq]at h
   obtain⟨rfl,rfl⟩:=h
   exact(jo h1).trans (fe hq)
  ·simp at h⟩
structure qN (α:Type) where
 read:List AV→Option (α×List Prop)
 make:α→List AV
 ok:∀{l:List AV} {a:α} {q:List Prop},read l=some (a,q)→ax q→eC l (make a)
def kN:qN Unit:=⟨fun l=>match l with
 |[]=>some ((),[])
 |_=>none,fun _=>[],fun {l a q} h _=>by
  split at h
  ·trivial
  ·simp at h⟩
def kC {α β:Type} (k:Kind α) (kl:qN β):qN (α×β):=⟨fun l=>match l with
 |v::l=>match k.read v,kl.read l with
  |some (a,p),some (b,q)=>some ((a,b),p++q)
  |_,_=>none
 |[]=>none,fun a=>k.make a.1::kl.make a.2,fun {l a q} h hq=>by
  split at h
  ·split at h
   ·rename_i h1 h2
    simp only[Option.some.injEq,Prod.mk.injEq]at h
    obtain⟨rfl,rfl⟩:=h
    obtain⟨q1,q2⟩:=er.1 hq
    exact⟨k.ok h1 q1,kl.ok h2 q2⟩
   ·simp at h
  ·simp at h⟩
def cD {α:Type} (k:qN α) (g:α→AV) (need:α→List Prop):Spec:=bE fun l=>match k.read l with
 |some (a,p)=>some (aG (g a) (p++need a))
 |none=>none
theorem cj {α:Type} {f:FuncId} {k:qN α} {g:α→AV} {need:α→List Prop} (h:∀a K,ax (need a)→aA P f K (k.make a) [] (aG (g a) [])):∀K args pre r,cD k g need K args pre=some r→aA P f K args pre r:=by
 refine bX fun K args r hk hs _=>?_
 split at hs
 ·rename_i h1
  simp only[Option.some.injEq]at hs
  subst hs
  intro hn
  obtain⟨n1,hn⟩:=er.1 hn
  exact fO (h _ K hn) hk (k.ok h1 n1) [] trivial
 ·simp at hs
end Go.Am.B

/- gl.Interval, ref08.Interval; numbers of zS. -/
namespace Go.Am.B
open Go Go.Am.N AV aa ak IntKind
theorem ahW:aP P sq vu (au vu):=aQ air (by kernel_rfl) (by kernel_rfl) (by kernel_rfl)
theorem adm:aP P x7 yo (au yo):=aQ acI (by kernel_rfl) (by kernel_rfl) (by kernel_rfl)
def gj:aS:=nG::FF
def mo:aS:=nG::nL
abbrev sK:Nat:=4096
abbrev ls (k:Nat→Rat) (n:Nat):AV:=bq k n sK
abbrev tP (t:Rat) (s:Nat):ah:=⟨false,true,3,1,fun _=>.rat t s⟩
abbrev zY:List Nat:=[0,5,8,9,6,7]
abbrev FQ (n:Nat) (k:Nat→Rat) (l i:Nat):List AV:=[ls k n,.ptr 0 0 3 0 [],.int .i64 l,.int .i64 i,.int .i64 0,.int .i64 0]
noncomputable abbrev zn:Code:=au vu
theorem Rv {n:Nat} {k:Nat→Rat} {p:Int} {t:Rat}:aJ T gj [200013,21,31] 60 zY (before zn [1,1,1,0,1]) ⟨aN 0 [ls k n,.int .i64 p,.rat t sK],[],0⟩=
  let c11:Prop:=((↑n:Int)==(0:Int))=false;let c10:Prop:=0<1;let c9:AV:=aj 3 n fun i↦rat (k i) 4096;let c8:Nat:=Int.toNat (0:Int);let c7:AV:=ptr 0 0 (aT (rat t sK)).size 0 [];let c6:AV:=int i64 (0:Int);let c5:Nat×ah:=((0:Nat),ah.mk false true (aT (rat t sK)).size 1 fun x↦rat t 4096);let c4:Int:=(↑n:Int)-(1:Int);let c12:Prop:=(0:Int)≤(0:Int)∧c8<n;let c3:Bool:=bif false then true else decide (dc t (k c8)<(0:Int));let c2:aa (List AV×aC):=leaf ret ([c9,c7,tuple [],tuple [],c6,int i64 (7:Int)],[c5]);let c1:aa (List AV×aC):=leaf normal ([c9,c7,c6,c6,c6,c6],[c5]);some (fork c3 (ag [c11,c10,c12,c3=true] (fork true c2 c1)) (ag [c11,c10,c12,c3=false,c10,-(2:Int)^63≤c4∧c4<(2:Int)^63,(0:Int)≤c4∧c4.toNat<n] (fork (bif false then true else decide (dc t (k c4.toNat)>(0:Int))) c2 c1))):=by kernel_rfl
theorem akd {n l i:Nat} {k:Nat→Rat} {t:Rat}:aJ T gj [36,49,58] 60 zY [part zn [1,1,1,0,1,0,0]] ⟨aB zY (FQ n k l i),[(0,tP t sK)],1⟩=
  let c7:Int:=(↑i:Int);let c6:List AV:=[int i64 (0:Int),int i64 (0:Int)];let c5:AV:=ptr 0 0 3 0 [];let c4:AV:=aj 3 n fun i↦rat (k i) 4096;let c2:Nat×ah:=((0:Nat),ah.mk false true 3 1 fun x↦rat t 4096);let c10:AV:=int i64 c7;let c1:Int:=c7+(1:Int);let c8:Int:=dc (k c7.toNat) (k c1.toNat);let c3:Prop:=-(2:Int)^63≤c1∧c1<(2:Int)^63;let c9:List Prop:=[c3,(0:Int)≤c1∧c1.toNat<n];some (ag [c3] (fork (decide (c1<(↑n:Int))) (ag (((0:Int)≤c7∧c7.toNat<n)::c9) (fork (decide (c8≥(0:Int))) (ag [c3] (leaf normal (c4::c5::int i64 (↑l:Int)::int i64 c1::c6,[c2]))) (ag (((0:Nat)<1)::c9) (fork (decide (dc t (k c1.toNat)<(0:Int))) (leaf (exit 0) (c4::c5::c10::c10::c6,[c2])) (ag [c3] (leaf normal (c4::c5::c10::int i64 c1::c6,[c2]))))))) (leaf (exit 0) (c4::c5::int i64 (↑l:Int)::c10::c6,[c2])))):=by kernel_rfl
theorem ah7 {n l i:Nat} {k:Nat→Rat} {t:Rat}:bY T gj [] 60 vu [part zn [1,1,1,1]] ⟨aB zY (FQ n k l i),[(0,tP t sK)],1⟩=
  some (leaf ret [int i64 (↑l:Int),int i64 (0:Int)]):=by kernel_rfl
abbrev xp:List Nat:=[0,5,9,6,7]
abbrev Ag (n:Nat) (k:Nat→Rat) (i:Nat):List AV:=[ls k n,.ptr 0 0 3 0 [],.int .i64 i,.int .i64 0,.int .i64 0]
noncomputable abbrev xN:Code:=au yo
theorem afN {n p:Nat} {k:Nat→Rat} {t:Rat}:aJ T mo [19,27] 60 xp (before xN [1,1,1,1,0]) ⟨aN 0 [ls k n,.int .i64 p,.rat t sK],[],0⟩=
  let c13:AV:=int i64 (0:Int);let c12:Prop:=0<1;let c10:Prop:=(0:Int)≤(0:Int)∧Int.toNat (0:Int)<n;let c9:AV:=aj 3 n fun i↦rat (k i) 4096;let c7:AV:=ptr 0 0 (aT (rat t sK)).size 0 [];let c6:Nat×ah:=((0:Nat),ah.mk false true (aT (rat t sK)).size 1 fun x↦rat t 4096);let c5:Int:=(2:Int)^63;let c4:Int:=dc t (k (Int.toNat (0:Int)));let c3:Int:=(↑n:Int)-(1:Int);let c14:Int:=c3-(↑p:Int);let c11:Bool:=decide (c4<(0:Int));let c2:aa (List AV×aC):=leaf ret ([c9,c7,tuple [],c13,int i64 (7:Int)],[c6]);let c8:Int:=c14-(1:Int);let c1:aa (List AV×aC):=ag [-c5≤c14∧c14<c5,-c5≤c8∧c8<c5] (leaf normal ([c9,c7,int i64 c8,c13,c13],[c6]));some (ag [-c5≤c3∧c3<c5] (fork c11 (ag [c12,c10,c11=true] (fork true c2 c1)) (ag [c12,c10,c11=false,c12,(0:Int)≤c3∧c3.toNat<n] (fork (bif false then true else decide (dc t (k c3.toNat)>(0:Int))) c2 c1)))):=by kernel_rfl
theorem WR {n i:Nat} {k:Nat→Rat} {t:Rat}:aJ T mo [34,42] 60 xp [part xN [1,1,1,1,0,0,0]] ⟨aB xp (Ag n k i),[(0,tP t sK)],1⟩=
  let c7:AV:=int i64 (0:Int);let c6:AV:=ptr 0 0 3 0 [];let c5:AV:=aj 3 n fun i↦rat (k i) 4096;let c4:Nat×ah:=((0:Nat),ah.mk false true 3 1 fun x↦rat t 4096);let c3:Int:=(↑i:Int);let c9:Int:=c3-(1:Int);let c8:Bool:=decide (c3>(0:Int));let c2:aa (List AV×aC):=leaf (exit 0) ([c5,c6,int i64 c3,c7,c7],[c4]);let c1:aa (List AV×aC):=ag [-(2:Int)^63≤c9∧c9<(2:Int)^63] (leaf normal ([c5,c6,int i64 c9,c7,c7],[c4]));some (fork c8 (ag [c8=true,(0:Nat)<1,(0:Int)≤c3∧c3.toNat<n] (fork (bif true then decide (dc t (k c3.toNat)<(0:Int))else false) c1 c2)) (ag [c8=false] (fork false c1 c2))):=by kernel_rfl
theorem ad9 {n i:Nat} {k:Nat→Rat} {t:Rat}:bY T mo [] 60 yo [part xN [1,1,1,1,1]] ⟨aB xp (Ag n k i),[(0,tP t sK)],1⟩=
  some (leaf ret [int i64 (↑i:Int),int i64 (0:Int)]):=by kernel_rfl
theorem jZ:aW P gj:=cL La
theorem HP:aW P mo:=cL oG
theorem A3 {q:Rat} {n:Nat}:aO (.rat q n)=q:=rfl
theorem JC:max 1 (bu (Int.natAbs 1))=1:=by decide
theorem w7 {a b:Rat}:dc a b≥(0:Int)↔b≤a:=by
 have:=@lG a b
 constructor
 ·intro h
  have:¬a<b:=fun h'=>by have:=lG.2 h';omega
  grind
 ·intro h
  have:¬dc a b<0:=fun h'=>by have:=lG.1 h';grind
  omega
theorem jL {rl:List (Nat×Nat)} {l i s s' s2:Nat} {x y:Nat→Rat} {t:Rat} (hx:∀i,i<l→x i=y i) (ht:t=y l) (h1:s≤s2) (h2:s'≤s2) (hi:i<l+1):fz rl (if i<l then .rat (x i) s else nth [.rat t s'] (.rat 0 1) (i-l+0)) (.rat (y i) s2):=by
 by_cases h:i<l
 ·rw[if_pos h,hx i h];exact .inr ⟨rfl,bG rfl h1⟩
 ·have:i=l:=by omega
  subst this
  rw[if_neg h,Nat.sub_self,ht]
  exact .inr ⟨rfl,bG rfl h2⟩
theorem RU {rl:List (Nat×Nat)} {i s' s2:Nat} {y:Nat→Rat} {t:Rat} (ht:t=y 0) (h2:s'≤s2) (hi:i<1):fz rl (nth [.rat t s'] (.rat 0 1) (i+0)) (.rat (y i) s2):=by
 have:i=0:=by omega
 subst this
 rw[ht]
 exact .inr ⟨rfl,bG rfl h2⟩
def dM (n:Nat) (k:Nat→Rat) (t:Rat):Prop:=t<k 0∨k (n-1)<t
instance {n:Nat} {k:Nat→Rat} {t:Rat}:Decidable (dM n k t):=inferInstanceAs (Decidable (t<k 0∨k (n-1)<t))
def fK (n:Nat) (k:Nat→Rat) (t:Rat):Nat:=if dM n k t then 0 else bz n k t
def eU (n:Nat) (k:Nat→Rat) (t:Rat):Int:=if dM n k t then 7 else 0
abbrev ql (n:Nat) (k:Nat→Rat) (t:Rat):AV:=.tuple [.int .i64 (fK n k t),.int .i64 (eU n k t)]
theorem B9 {n:Nat} {k:Nat→Rat} {t:Rat} (h:dM n k t):dI [.int .i64 0,.int .i64 7] (ql n k t):=
 ⟨bt (by unfold fK;rw[if_pos h];rfl),bt (by unfold eU;rw[if_pos h]),trivial⟩
theorem MF {n i:Nat} {k:Nat→Rat} {t:Rat} (h:¬dM n k t) (hi:i=bz n k t):dI [.int .i64 i,.int .i64 0] (ql n k t):=
 ⟨bt (by unfold fK;rw[if_neg h,hi]),bt (by unfold eU;rw[if_neg h]),trivial⟩
abbrev sM (k:Nat→Rat) (t:Rat) (i:Nat):Nat:=j9 (fun i=>decide (k i<k (i+1))&&decide (k i≤t)) i
theorem Lq {g:Nat→Bool} {m:Nat}:j9 g (m+1)=if g m then m else j9 g m:=rfl
theorem Wv {n p0:Nat} {k:Nat→Rat} {p:Int} {t:Rat} (h:Kn n p0 k) (hn:n<2^40) (K:Nat):aA P sq K [ls k n,.int .i64 p,.rat t sK] [] (aG (ql n k t) []):=by
 have hp:=h.p1
 have hl:=h.len
 refine fD (r:=aG (ql n k t) []) hT jZ hm ahW rfl (of_decide_eq_true (by kernel_rfl)) rfl [1,1,1,0,1] (i:=0) (y:=part zn [1,1,1,0,1,0,0]) (z:=part zn [1,1,1,1]) (by kernel_rfl) (by kernel_rfl) (by kernel_rfl) (f1:=[200013,21,31]) (f2:=[36,49,58]) (f3:=[]) 60 zY 1
  (fun a:Nat×Nat=>FQ n k a.2 a.1) (fun _=>[(0,tP t sK)]) (fun a=>a.1+1≤n∧a.2=sM k t a.1∧k a.1≤t∧¬dM n k t) (fun a=>a.2=bz n k t∧¬dM n k t) (fun a=>n-a.1) (fun _=>⟨⟨_,Rv,?_⟩,fun⟨i,l⟩ ⟨h1,h2,h3,h4⟩=>⟨_,akd,?_⟩,fun⟨i,l⟩ ⟨h1,h2⟩=>⟨_,ah7,MF h2 h1⟩⟩) K []
 ·simp only[aa.all,ax,decide_eq_true_eq,decide_eq_false_iff_not,lG,qe,cond_false,Int.toNat_zero,beq_eq_false_iff_ne,ne_eq,show((n:Int)-1).toNat=n-1 by omega]
  (repeat' with_reducible first|refine And.intro ?_ ?_|intro _)
  all_goals first|omega|assumption|skip
  ·exact⟨_,by kernel_rfl,B9 (.inl ‹_›)⟩
  ·exact absurd ‹true=false› (by decide)
  ·exact⟨_,by kernel_rfl,B9 (.inr ‹_›)⟩
  ·rename_i a b
   have hin:¬dM n k t:=fun h=>h.elim (fun h=>a h) fun h=>b h
   exact⟨(0,0),⟨by omega,rfl,by show k 0≤t;grind,hin⟩,[(0,0)],rfl,rfl,rfl,aF rfl rfl (aE rfl rfl) trivial⟩
 ·have hs:∀i,i+1<n→k i≤k (i+1):=h.sorted
  simp only at h1 h2 h3
  simp only[aa.all,ax,decide_eq_true_eq,decide_eq_false_iff_not,lG,w7,Int.toNat_natCast,show((i:Int)+1).toNat=i+1 by omega]
  (repeat' with_reducible first|refine And.intro ?_ ?_|intro _)
  all_goals first|omega|assumption|skip
  ·rename_i hi hge
   have:=hs i (by omega)
   have e:sM k t (i+1)=sM k t i:=by
    have:¬k i<k (i+1):=by grind
    rw[sM,Lq,if_neg (by simp[this])]
   exact⟨(i+1,l),⟨by omega,h2.trans e.symm,by show k (i+1)≤t;grind,h4⟩,by dsimp only;omega,[(0,0)],rfl,rfl,rfl,aF rfl rfl (aE rfl rfl) trivial⟩
  ·rename_i hi hlt hb
   have:k i<k (i+1):=by grind
   have hiv:bz n k t=i:=rR ⟨⟨by omega,hs,this⟩,h3,by grind,.inl hb⟩
   exact⟨rfl,(i,i),⟨hiv.symm,h4⟩,[(0,0)],rfl,rfl,rfl,aF rfl rfl (aE rfl rfl) trivial⟩
  ·rename_i hi hlt hb
   have:k i<k (i+1):=by grind
   have e:sM k t (i+1)=i:=by
    rw[sM,Lq,if_pos (by simp[this,h3])]
   exact⟨(i+1,i),⟨by omega,e.symm,by show k (i+1)≤t;grind,h4⟩,by dsimp only;omega,[(0,0)],rfl,rfl,rfl,aF rfl rfl (aE rfl rfl) trivial⟩
  ·have hin:i=n-1:=by omega
   subst hin
   exact⟨rfl,(n-1,l),⟨h2,h4⟩,[(0,0)],rfl,rfl,rfl,aF rfl rfl (aE rfl rfl) trivial⟩
theorem YT {n p:Nat} {k:Nat→Rat} {t:Rat} (h:Kn n p k) (hn:n<2^40) (K:Nat):aA P x7 K [ls k n,.int .i64 p,.rat t sK] [] (aG (ql n k t) []):=by
 have hp:=h.p1
 have hl:=h.len
 refine fD (r:=aG (ql n k t) []) hT HP hm adm rfl (of_decide_eq_true (by kernel_rfl)) rfl [1,1,1,1,0] (i:=0) (y:=part xN [1,1,1,1,0,0,0]) (z:=part xN [1,1,1,1,1]) (by kernel_rfl) (by kernel_rfl) (by kernel_rfl) (f1:=[19,27]) (f2:=[34,42]) (f3:=[]) 60 xp 1
  (fun i:Nat=>Ag n k i) (fun _=>[(0,tP t sK)]) (fun i=>i+p+2≤n∧(∀j,i<j→j+p+2≤n→t<k j)∧¬dM n k t) (fun i=>i=bz n k t∧¬dM n k t) (fun i=>i) (fun _=>⟨⟨_,afN,?_⟩,fun i ⟨h1,h2,h4⟩=>⟨_,WR,?_⟩,fun i ⟨h1,h2⟩=>⟨_,ad9,MF h2 h1⟩⟩) K []
 ·simp only[aa.all,ax,decide_eq_true_eq,decide_eq_false_iff_not,lG,qe,cond_false,Int.toNat_zero,show((n:Int)-1).toNat=n-1 by omega]
  (repeat' with_reducible first|refine And.intro ?_ ?_|intro _)
  all_goals first|omega|assumption|skip
  ·exact⟨_,by kernel_rfl,B9 (.inl ‹_›)⟩
  ·exact absurd ‹true=false› (by decide)
  ·exact⟨_,by kernel_rfl,B9 (.inr ‹_›)⟩
  ·rename_i a b
   have hin:¬dM n k t:=fun h=>h.elim (fun h=>a h) fun h=>b h
   refine⟨n-p-2,⟨by omega,fun j h1 h2=>by omega,hin⟩,[(0,0)],rfl,?_,rfl,aF rfl rfl (aE rfl rfl) trivial⟩
   rw[show(n:Int)-1-(p:Int)-1=((n-p-2:Nat):Int) by omega]
   rfl
 ·simp only[aa.all,ax,decide_eq_true_eq,decide_eq_false_iff_not,lG,Int.toNat_natCast,cond_true]
  have hin:k 0≤t∧t≤k (n-1):=by
   constructor
   ·have:¬t<k 0:=fun h=>h4 (.inl h)
    grind
   ·have:¬k (n-1)<t:=fun h=>h4 (.inr h)
    grind
  have fin:k i≤t→i=bz n k t:=fun h3=>by
   by_cases hi:i+p+2<n
   ·have h5:=h2 (i+1) (by omega) (by omega)
    exact(rR ⟨⟨by omega,h.sorted,by grind⟩,h3,by grind,.inl h5⟩).symm
   ·have e1:=h.last (i+1) (by omega) (by omega)
    have e2:=h.last (i+p) (by omega) (by omega)
    have e3:=h.mult i (by omega) (by omega)
    exact(rR ⟨⟨by omega,h.sorted,by rw[e1,←e2];exact e3⟩,h3,by rw[e1];exact hin.2,.inr e1⟩).symm
  (repeat' with_reducible first|refine And.intro ?_ ?_|intro _)
  all_goals first|omega|assumption|skip
  ·rename_i a b
   refine⟨i-1,⟨by omega,fun j h5 h6=>?_,h4⟩,by dsimp only;omega,[(0,0)],rfl,?_,rfl,aF rfl rfl (aE rfl rfl) trivial⟩
   ·by_cases hj:j=i
    ·subst hj;exact b
    ·exact h2 j (by omega) h6
   ·rw[show(i:Int)-1=((i-1:Nat):Int) by omega];rfl
  ·rename_i a b
   exact⟨rfl,i,⟨fin (by grind),h4⟩,[(0,0)],rfl,rfl,rfl,aF rfl rfl (aE rfl rfl) trivial⟩
  ·exact absurd ‹false=true› (by decide)
  ·have hi:i=0:=by omega
   subst hi
   exact⟨rfl,0,⟨fin hin.1,h4⟩,[(0,0)],rfl,rfl,rfl,aF rfl rfl (aE rfl rfl) trivial⟩
abbrev Jg:qN ((Nat×(Nat→Rat))×Int×Rat×Unit):=kC (kL sK) (kC kI (kC (fq sK) kN))
def zB:Spec:=cD Jg (fun a=>ql a.1.1 a.1.2 a.2.2.1) fun a=>[Kn a.1.1 a.2.1.toNat a.1.2,0≤a.2.1,a.1.1<2^40]
theorem OP:∀K args pre r,zB K args pre=some r→aA P sq K args pre r:=cj fun _ K hn=>Wv hn.1 hn.2.2 K
theorem Wm:∀K args pre r,zB K args pre=some r→aA P x7 K args pre r:=cj fun⟨⟨n,k⟩,p,t,_⟩ K hn=>by
 have:=YT hn.1 hn.2.2 K (t:=t)
 rw[Int.toNat_of_nonneg hn.2.1]at this
 exact this
end Go.Am.B

/- basis.fraction, basis.Values. -/
namespace Go.Am.B
open Go Go.Am.N AV aa ak IntKind
theorem ajv:aP P x5 yR (au yR):=aQ afM (by kernel_rfl) (by kernel_rfl) (by kernel_rfl)
theorem Og:aP P xW tZ (au tZ):=aQ abv (by kernel_rfl) (by kernel_rfl) (by kernel_rfl)
def NF:aS:=(uy,ic kR kR BA qn)::gb
theorem ajO {a b t:Rat} {n:Nat}:bC T NF [] 60 yR (au yR) ⟨aN 0 [.rat a n,.rat b n,.rat t n],[],0⟩=
  let c3:Nat:=n+n+1;let c2:Nat:=2^42;let c1:Prop:=0<1;some (ag [c1,c1,n<c2,n<c2,c1,c1,n<c2,n<c2,c3<c2,c3<c2,c1] (ag [c1,c1] (ag [c1] (leaf ret [rat ((t-a)/(b-a)) (c3+c3)])))):=by kernel_rfl
abbrev sF:Nat:=16386
def HK:Spec:=cD (kC (fq sK) (kC (fq sK) (kC (fq sK) kN))) (fun a=>.rat (fr a.1 a.2.1 a.2.2.1) sF) fun _=>[]
theorem Ui:aW P NF:=aH (iF fun _ _ K hn=>Ht hn.1 hn.2 K) gY
theorem Ku:∀K args pre r,HK K args pre=some r→aA P x5 K args pre r:=cj fun⟨a,b,t,_⟩ K _=>by
 refine bJ (r:=aG (.rat (fr a b t) sF) []) hT Ui hm ajv rfl (of_decide_eq_true (by kernel_rfl)) rfl 60 ajO (fun _=>?_) K []
 simp only[aa.all,ax]
 have h1:sK=4096:=rfl
 (repeat' with_reducible refine And.intro ?_ ?_)
 all_goals first|omega|exact(bG rfl (show sK+sK+1+(sK+sK+1)≤sF by decide))
def qO:aS:=nG::(sq,zB)::(x5,HK)::(qC,DG)::gb
def SB (d:Nat):Nat:=65536*4^d
abbrev HB (d:Nat):Nat:=1+(sF+SB d)+1
abbrev lX:List Nat:=[0,1,5,9,11,12,6,7,8]
abbrev uw (n:Nat) (k:Nat→Rat) (p i d:Nat):List AV:=[ls k n,.int .i64 p,.ptr 0 0 3 0 [],.int .i64 i,.own 2 3 0 (d+1),.int .i64 ((d+1:Nat):Int),.int .i64 0,.nil,.int .i64 0]
abbrev jJ (m:Nat) (x:Nat→Rat) (s:Nat→Nat):ah:=⟨true,true,3,m,fun i=>.rat (x i) (s i)⟩
noncomputable abbrev BI:Code:=au tZ
noncomputable abbrev uo:Code:=part BI [1,1,1,1,1,0,1,0,0]
noncomputable abbrev p5:Code:=part uo [1,0,0]
abbrev xK:List Nat:=[0,1,5,9,12,13,54,55,56,6,7,8]
abbrev Er (n:Nat) (k:Nat→Rat) (p i d j:Nat):List AV:=[ls k n,.int .i64 p,.ptr 0 0 3 0 [],.int .i64 i,.int .i64 ((d+1:Nat):Int),.own 3 3 0 (d+2),.own 2 3 0 (d+1),.int .i64 ((d+1:Nat):Int),.int .i64 j,.int .i64 0,.nil,.int .i64 0]
theorem aju {n p:Nat} {k:Nat→Rat} {t:Rat}:aJ T qO [26,30,36,43] 60 lX (before BI [1,1,1,1,1,0,1]) ⟨aN 0 [ls k n,.int .i64 p,.rat t sK],[],0⟩=
  let c13 : Int := eU n (fun i ↦ aO (rat (k i) sK)) t; let c12 : AV := int i64 (0 : Int); let c9 : AV := aj 3 n fun i ↦ rat (k i) 4096; let c7 : AV := ptr 0 0 (aT (rat t sK)).size 0 []; let c6 : Int := (2 : Int) ^ 63; let c5 : Nat × ah := ((0 : Nat), ah.mk false true (aT (rat t sK)).size 1 fun x ↦ rat t 4096); let c4 : Int := (↑p : Int); let c3 : Int := (↑(fK n (fun i ↦ aO (rat (k i) sK)) t) : Int); let c15 : Prop := -c6 ≤ c3 - c4 ∧ c3 - c4 < c6; let c14 : Prop := -c6 ≤ c3 + c4 ∧ c3 + c4 < c6; let c11 : Bool := bif false then true else decide (c3 + c4 ≥ (↑n : Int)); let c10 : Bool := decide (c4 < (0 : Int)); let c8 : Bool := bif false then true else decide (c3 - c4 < (0 : Int)); let c2 : aa (List AV × aC) := leaf ret ([c9, int i64 c4, c7, int i64 c3, tuple [], tuple [], c12, nil, int i64 (7 : Int)], [c5]); let c1 : aa (List AV × aC) := ag [(1 : Nat) * 3 ≤ 2 ^ 24] (leaf normal ([c9, int i64 c4, c7, int i64 c3, own 131072 3 0 1, int i64 (1 : Int), c12, nil, c12], [((131072 : Nat), ah.mk true true 3 1 fun i ↦ nth [rat (↑(1 : Int) : Rat) (Max.max 1 (bu (Int.natAbs (1 : Int))))] (rat 0 1) i), c5])); some (ag [(0 : Nat) < 1, bK (fun i ↦ rat (k i) sK) n sK, sK ≤ sK, Kn n c4.toNat fun i ↦ aO (rat (k i) sK), (0 : Int) ≤ c4, n < 2 ^ 40] (fork (c13 != (0 : Int)) (leaf ret ([c9, int i64 c4, c7, int i64 c3, tuple [], tuple [], c12, nil, int i64 c13], [c5])) (fork false (fork true (ag [c10 = true, true = true] (fork true c2 c1)) (ag [c10 = true, true = false, c14] (fork c11 c2 c1))) (fork c8 (ag [c10 = false, c15, c8 = true] (fork true c2 c1)) (ag [c10 = false, c15, c8 = false, c14] (fork c11 c2 c1)))))) := by kernel_rfl
theorem aeq {n p i d:Nat} {k x:Nat→Rat} {t:Rat}:aJ T qO [48] 60 lX (before uo [1,0]) ⟨aB lX (uw n k p i d),[(2,jJ (d+1) x fun _=>SB d),(0,tP t sK)],3⟩=
  let c2:Int:=(↑(d+1):Int);let c1:List AV×aC:=([aj 3 n fun i↦rat (k i) 4096,int i64 (↑p:Int),ptr 0 0 3 0 [],int i64 (↑i:Int),own 2 3 0 (d+1),int i64 c2,int i64 (0:Int),nil,int i64 (0:Int)],[((2:Nat),ah.mk true true 3 (d+1) fun i↦rat (x i) (SB d)),((0:Nat),ah.mk false true 3 1 fun x↦rat t 4096)]);some (fork (decide (c2≤(↑p:Int))) (leaf normal c1) (leaf (exit 0) c1)):=by kernel_rfl
theorem agJ {n p i d:Nat} {k x:Nat→Rat} {t:Rat}:aJ T qO [] 60 xK (before p5 [1,0,1]) ⟨aB lX (uw n k p i d),[(2,jJ (d+1) x fun _=>SB d),(0,tP t sK)],3⟩=
  let c3:AV:=int i64 (0:Int);let c2:Int:=(↑(d+1):Int);let c1:Int:=c2+(1:Int);some (ag [-(2:Int)^63≤c1∧c1<(2:Int)^63,(0:Int)≤c1∧c1≤c1∧c1≤(2:Int)^47∧c1*(↑(56:Nat):Int)≤(2:Int)^47] (leaf normal ([aj 3 n fun i↦rat (k i) 4096,int i64 (↑p:Int),ptr 0 0 3 0 [],int i64 (↑i:Int),int i64 c2,own 8195 3 0 c1.toNat,own 2 3 0 (d+1),int i64 c2,c3,c3,nil,c3],[((2:Nat),ah.mk true true 3 (d+1) fun i↦rat (x i) (SB d)),((8195:Nat),ah.mk true true 3 c1.toNat fun x↦rat 0 1),((0:Nat),ah.mk false true 3 1 fun x↦rat t 4096)]))):=by kernel_rfl
theorem aaz {n p i d j:Nat} {k x y:Nat→Rat} {s:Nat→Nat} {t:Rat}:aJ T qO [57] 60 xK [part p5 [1,0,1,0,0]] ⟨aB xK (Er n k p i d j),[(3,jJ (d+2) y s),(2,jJ (d+1) x fun _=>SB d),(0,tP t sK)],4⟩=
  let c20:AV:=int i64 (0:Int);let c19:AV:=ptr 0 0 3 0 [];let c18:AV:=aj 3 n fun i↦rat (k i) 4096;let c16:Nat:=d+1;let c13:Nat×ah:=((0:Nat),ah.mk false true 3 1 fun x↦rat t 4096);let c11:Int:=(↑j:Int);let c10:Prop:=0<1;let c9:Nat:=d+2;let c8:Nat:=Max.max 1 (bu (Int.natAbs (1:Int)));let c7:Nat:=2^42;let c5:Int:=(2:Int)^63;let c25:Prop:=(0:Int)≤c11∧c11.toNat<c9;let c23:Nat:=c8+sF+1;let c22:AV:=own 3 3 0 c9;let c21:AV:=own 2 3 0 c16;let c12:Nat×ah:=((2:Nat),ah.mk true true 3 c16 fun i↦rat (x i) (SB d));let c6:Int:=c11+(1:Int);let c4:Nat:=c11.toNat+0;let c3:Int:=(↑c16:Int);let c29:AV:=int i64 c3;let c27:Prop:=(0:Int)≤c6∧c6.toNat<c9;let c24:Prop:=-c5≤c6∧c6<c5;let c17:Int:=(↑i:Int)-c3;let c2:Nat:=c6.toNat+0;let c28:Int:=c17+(1:Int);let c26:Nat:=s c2+(sF+SB d)+1;let c15:Nat:=bif c4==c2 then c26 else s c4;let c1:Int:=c28+c11;let c14:Rat:=fr (k c1.toNat) (k (c1+c3).toNat) t;some (fork (decide (c11<c3)) (ag [(0:Int)≤c11∧c11.toNat<c16,c4<c16,c10] (ag [-c5≤c17∧c17<c5,-c5≤c28∧c28<c5,-c5≤c1∧c1<c5] (ag [(0:Int)≤c1∧c1.toNat<n,-c5≤c1+c3∧c1+c3<c5,(0:Int)≤c1+c3∧(c1+c3).toNat<n,c10,sK≤sK,sK≤sK,sK≤sK,c10] (ag [c24,c24,c27,c2<c9,c10,c10,sF<c7,SB d<c7,s c2<c7,sF+SB d<c7,c27,c2<c9] (ag [c25,c4<c9,c10,c8<c7,sF<c7,c10,c23<c7,SB d<c7,c15<c7,c23+SB d<c7,c25,c4<c9] (ag [c24] (leaf normal ([c18,int i64 (↑p:Int),c19,int i64 (↑i:Int),c29,c22,c21,c29,int i64 c6,c20,nil,c20],[c12,((3:Nat),ah.mk true true 3 c9 fun j↦rat (bif j==c4 then(bif c4==c2 then y c2+c14*x c4 else y c4)+((↑(1:Int):Rat)-c14)*x c4 else bif j==c2 then y c2+c14*x c4 else y j) (bif j==c4 then c15+(c23+SB d)+1 else bif j==c2 then c26 else s j)),c13])))))))) (leaf (exit 2) ([c18,int i64 (↑p:Int),c19,int i64 (↑i:Int),c29,c22,c21,c29,int i64 c11,c20,nil,c20],[c12,((3:Nat),ah.mk true true 3 c9 fun i↦rat (y i) (s i)),c13]))):=by kernel_rfl
theorem Q4 {n p i d j:Nat} {k x y:Nat→Rat} {s:Nat→Nat} {t:Rat}:aJ T qO [] 60 lX [part p5 [1,1],part uo [1,1]] ⟨aB xK (Er n k p i d j),[(3,jJ (d+2) y s),(2,jJ (d+1) x fun _=>SB d),(0,tP t sK)],4⟩=
  let c1:Int:=(↑(d+1):Int)+(1:Int);some (ag [-(2:Int)^63≤c1∧c1<(2:Int)^63] (leaf normal ([aj 3 n fun i↦rat (k i) 4096,int i64 (↑p:Int),ptr 0 0 3 0 [],int i64 (↑i:Int),own 3 3 0 (d+2),int i64 c1,int i64 (0:Int),nil,int i64 (0:Int)],[((3:Nat),ah.mk true true 3 (d+2) fun i↦rat (y i) (s i)),((0:Nat),ah.mk false true 3 1 fun x↦rat t 4096)]))):=by kernel_rfl
theorem ZY {n p i d:Nat} {k x:Nat→Rat} {t:Rat}:bY T qO [] 60 tZ [part BI [1,1,1,1,1,1]] ⟨aB lX (uw n k p i d),[(2,jJ (d+1) x fun _=>SB d),(0,tP t sK)],3⟩=
  let c1:Int:=(↑i:Int)-(↑p:Int);some (ag [-(2:Int)^63≤c1∧c1<(2:Int)^63] (leaf ret [int i64 c1,aj 3 (d+1) fun i↦rat (x (i+0)) (SB d),int i64 (0:Int)])):=by kernel_rfl
theorem Dp {d:Nat}:SB (d+1)=4*SB d:=by unfold SB;rw[Nat.pow_succ];omega
theorem tD:∀{d:Nat},65536≤SB d
 |0=>by unfold SB;omega
 |d+1=>by rw[Dp];have:=tD (d:=d);omega
theorem BE:sF=16386:=rfl
theorem SZ {d e:Nat} (h:d≤e):SB d≤SB e:=Nat.mul_le_mul_left _ (Nat.pow_le_pow_right (by omega) h)
abbrev sV:Nat:=268435456
theorem yX {d:Nat} (h:d≤6):SB d≤sV:=Nat.le_trans (SZ h) (by decide)
def vZ (n:Nat) (k:Nat→Rat) (p:Nat) (t:Rat) (f:Nat→Rat):AV:=.tuple [.int .i64 (if dM n k t then 0 else(bz n k t:Int)-p),.aj 3 (if dM n k t then 0 else p+1) (fun j=>.rat (f j) sV),.int .i64 (eU n k t)]
abbrev Bz (n:Nat) (k:Nat→Rat) (p:Nat) (t:Rat):AV:=vZ n k p t (vB k (bz n k t) t p)
theorem af4 {n p:Nat} {k f:Nat→Rat} {t:Rat} (h:dM n k t):dI [.int .i64 0,.nil,.int .i64 7] (vZ n k p t f):=by
 unfold vZ eU
 rw[if_pos h,if_pos h,if_pos h]
 exact⟨.refl _,kS (by omega),.refl _,trivial⟩
theorem WD {n p:Nat} {k f:Nat→Rat} {t:Rat} {g:Nat→AV} (h:¬dM n k t) (hg:∀j,j<p+1→bw (g j) (.rat (f j) sV)):dI [.int .i64 ((bz n k t:Int)-p),.aj 3 (p+1) g,.int .i64 0] (vZ n k p t f):=by
 unfold vZ eU
 rw[if_neg h,if_neg h,if_neg h]
 exact⟨.refl _,fT hg,.refl _,trivial⟩
theorem zq:aW P qO:=cL (aH OP (aH Ku (aH (GJ HG) gY)))
def y9 (k:Nat→Rat) (i:Nat) (t:Rat) (d j:Nat):Rat:=if j=0 then 0 else fr (k (i-d+(j-1))) (k (i-d+(j-1)+(d+1))) t*vB k i t d (j-1)
def kZ (k:Nat→Rat) (i:Nat) (t:Rat) (d j x:Nat):Rat:=if x<j then vB k i t (d+1) x else if x=j then y9 k i t d j else 0
def jl (d j x:Nat):Nat:=if x<j then SB (d+1)else if x=j then HB d else 1
theorem abK {rl:List (Nat×Nat)} {k:Nat→Rat} {i d j x:Nat} {t:Rat} (hj:j≤d):
  fz rl (.rat (bif x==j then(bif j==j+1 then kZ k i t d j (j+1)+fr (k (i-d+j)) (k (i-d+j+(d+1))) t*vB k i t d j else kZ k i t d j j)+(((1:Int):Rat)-fr (k (i-d+j)) (k (i-d+j+(d+1))) t)*vB k i t d j
   else bif x==j+1 then kZ k i t d j (j+1)+fr (k (i-d+j)) (k (i-d+j+(d+1))) t*vB k i t d j else kZ k i t d j x)
   (bif x==j then(bif j==j+1 then jl d j (j+1)+(sF+SB d)+1 else jl d j j)+(1+sF+1+SB d)+1 else bif x==j+1 then jl d j (j+1)+(sF+SB d)+1 else jl d j x))
   (.rat (kZ k i t d (j+1) x) (jl d (j+1) x)):=by
 have h1:=Dp (d:=d)
 have h2:=tD (d:=d)
 have h3:=BE
 have hjj:(j==j+1)=false:=by simp
 rw[hjj]
 refine .inr ⟨rfl,?_⟩
 by_cases hx:x=j
 ·subst hx
  simp only[beq_self_eq_true,cond_true,cond_false]
  refine bG ?_ ?_
  ·unfold kZ
   rw[if_neg (by omega),if_pos rfl,if_pos (by omega),vB,if_pos hj]
   have:((1:Int):Rat)=1:=rfl
   rw[this];rfl
  ·unfold jl HB
   rw[if_neg (by omega),if_pos rfl,if_pos (by omega)];omega
 ·have hb:(x==j)=false:=by simpa using hx
  rw[hb]
  by_cases hx2:x=j+1
  ·subst hx2
   simp only[beq_self_eq_true,cond_true,cond_false]
   refine bG ?_ ?_
   ·unfold kZ y9
    rw[if_neg (by omega),if_neg (by omega),if_neg (by omega),if_pos rfl,if_neg (by omega),Nat.add_sub_cancel,Rat.zero_add]
   ·unfold jl HB
    rw[if_neg (by omega),if_neg (by omega),if_neg (by omega),if_pos rfl];omega
  ·have hb2:(x==j+1)=false:=by simpa using hx2
   rw[hb2]
   simp only[cond_false]
   refine bG ?_ ?_
   ·unfold kZ
    by_cases hlt:x<j
    ·rw[if_pos hlt,if_pos (by omega)]
    ·rw[if_neg hlt,if_neg hx,if_neg (by omega),if_neg hx2]
   ·unfold jl
    by_cases hlt:x<j
    ·rw[if_pos hlt,if_pos (by omega)];omega
    ·rw[if_neg hlt,if_neg hx,if_neg (by omega),if_neg hx2];omega
theorem aax {n p:Nat} {k:Nat→Rat} {t:Rat} (h:Kn n p k) (hp6:p≤6) (hn:n<2^40) (K:Nat):aA P xW K [ls k n,.int .i64 p,.rat t sK] [] (aG (Bz n k p t) []):=by
 refine gk (r:=aG (Bz n k p t) []) hT Og rfl (of_decide_eq_true (by kernel_rfl)) rfl (fun _ c h0=>?_) K []
 have hk:=nP h0
 have hiv:¬dM n k t→p≤bz n k t∧bz n k t+p+1<n:=fun hin=>by
  have h1:¬t<k 0:=fun h=>hin (.inl h)
  have h2:¬k (n-1)<t:=fun h=>hin (.inr h)
  exact(h.Is (by grind) (by grind)).2
 have hp1:=h.p1
 have hl:=h.len
 refine aq.DY hT zq hm [1,1,1,1,1,0,1] (i:=0) (y:=uo) (z:=part BI [1,1,1,1,1,1]) (by kernel_rfl) (by kernel_rfl) (by kernel_rfl) Og.dst hk (f1:=[26,30,36,43]) 60 lX 3 (fun d:Nat=>uw n k p (bz n k t) d) (fun d=>[(2,jJ (d+1) (vB k (bz n k t) t d) fun _=>SB d),(0,tP t sK)])
  (fun d=>d≤p∧¬dM n k t) (fun d=>d=p∧¬dM n k t) (fun d=>p-d) (nZ tZ lX (Bz n k p t)) ⟨_,aju,?_⟩ (fun d ⟨hd,hin⟩=>?_) (fun d ⟨hd,hin⟩=>?_) (fun v s' hv hs'=>hv.fin hs')
 ·simp only[aa.all,ax,A3,bne_iff_ne,ne_eq,bne_eq_false_iff_eq,decide_eq_true_eq,decide_eq_false_iff_not,cond_false,Int.toNat_natCast]
  refine⟨⟨by omega,ct (Nat.le_refl _),Nat.le_refl _,h,by omega,hn⟩,fun hout=>?_,fun hin=>?_⟩
  ·have hout:dM n k t:=by
    unfold eU at hout
    by_cases ho:dM n k t
    ·exact ho
    ·rw[if_neg ho]at hout;exact absurd rfl hout
   refine⟨[.int .i64 0,.nil,.int .i64 7],?_,af4 hout⟩
   unfold eU
   rw[if_pos hout]
   kernel_rfl
  ·have hin:¬dM n k t:=fun ho=>by unfold eU at hin;rw[if_pos ho]at hin;omega
   have hii:fK n k t=bz n k t:=by unfold fK;rw[if_neg hin]
   have hv:=hiv hin
   simp only[hii,decide_eq_true_eq,decide_eq_false_iff_not]
   (repeat' with_reducible first|refine And.intro ?_ ?_|intro _)
   all_goals first|omega|(exfalso;omega)|exact absurd ‹false=true› (by decide)|exact absurd ‹true=false› (by decide)|skip
   refine⟨0,⟨by omega,hin⟩,[(0,0),(2,131072)],rfl,rfl,rfl,bB rfl rfl rfl (fun i hi=>?_) (aF rfl rfl (aE rfl rfl) trivial)⟩
   have:i=0:=by omega
   subst this
   exact .inr ⟨rfl,bG rfl (by have:=tD (d:=0);exact Nat.le_trans (by decide) this)⟩
 ·have hv:=hiv hin
  refine aq.uI hT zq hm (y:=uo) (x1:=p5) (zb:=part uo [1,1]) [1,0] (j:=1) (by kernel_rfl) (by kernel_rfl) (by kernel_rfl) (by kernel_rfl) hk (f1:=[48]) 60 lX 3 (fun _:Unit=>uw n k p (bz n k t) d) (fun _=>[(2,jJ (d+1) (vB k (bz n k t) t d) fun _=>SB d),(0,tP t sK)]) (fun _=>d+1≤p) ⟨_,aeq,?_⟩ (fun _ hd'=>?_)
  ·simp only[aa.all,ax,decide_eq_true_eq,decide_eq_false_iff_not]
   have re:dN [] ([aj 3 n fun i=>rat (k i) sK,int i64 p,ptr 0 0 3 0 [],int i64 (bz n k t),own 2 3 0 (d+1),int i64 ((d+1:Nat):Int),int i64 (0:Int),nil,int i64 (0:Int)],[((2:Nat),ah.mk true true 3 (d+1) fun i↦rat (vB k (bz n k t) t d i) (SB d)),((0:Nat),ah.mk false true 3 1 fun x↦rat t sK)]) (uw n k p (bz n k t) d) [(2,jJ (d+1) (vB k (bz n k t) t d) fun _=>SB d),(0,tP t sK)] 3:=
    ⟨[(0,0),(2,2)],rfl,rfl,rfl,bB rfl rfl rfl (fun i hi=>aE rfl rfl) (aF rfl rfl (aE rfl rfl) trivial)⟩
   exact⟨fun h1=>⟨(),by omega,re⟩,fun h1 s' hs'=>⟨rfl,d,⟨by omega,hin⟩,re.le hs' hk⟩⟩
  refine aq.jE hT zq hm (x:=p5) (z:=part p5 [1,1]) [1,0,1] (i:=2) (y:=part p5 [1,0,1,0,0]) (by kernel_rfl) (by kernel_rfl) (by kernel_rfl) (by kernel_rfl) hk (f1:=[]) (f2:=[57]) 60 xK 4 (fun j:Nat=>Er n k p (bz n k t) d j)
   (fun j=>[(3,jJ (d+2) (kZ k (bz n k t) t d j) (jl d j)),(2,jJ (d+1) (vB k (bz n k t) t d) fun _=>SB d),(0,tP t sK)]) (fun j=>j≤d+1) (fun j=>j=d+1) (fun j=>d+1-j) (fun _=>False) ⟨_,agJ,?_⟩ (fun j hj=>⟨_,aaz,?_⟩) (fun j hj=>?_) (fun _ _ h=>h.elim)
  ·simp only[aa.all,ax]
   rw[show(((d+1:Nat):Int)+1).toNat=d+2 by omega]
   refine⟨⟨by omega,by omega⟩,0,by omega,[(0,0),(2,2),(3,8195)],rfl,rfl,rfl,bB rfl rfl rfl (fun i hi=>?_) (bB rfl rfl rfl (fun i hi=>aE rfl rfl) (aF rfl rfl (aE rfl rfl) trivial))⟩
   refine .inr ⟨rfl,bG ?_ ?_⟩
   ·unfold kZ y9;rw[if_neg (by omega)];split<;>rfl
   ·unfold jl HB;rw[if_neg (by omega)];split<;>omega
  ·have hF:=BE
   have h1:=tD (d:=d)
   have h2:=yX (d:=d) (by omega)
   have h3:=yX (d:=d+1) (by omega)
   have h5:sV=268435456:=rfl
   have s0:jl d j j=HB d:=by unfold jl;rw[if_neg (by omega),if_pos rfl]
   have s1:jl d j (j+1)=1:=by unfold jl;rw[if_neg (by omega),if_neg (by omega)]
   have e0:((bz n k t:Int)-((d+1:Nat):Int)+1+(j:Int)).toNat=bz n k t-d+j:=by omega
   have e1:((bz n k t:Int)-((d+1:Nat):Int)+1+(j:Int)+((d+1:Nat):Int)).toNat=bz n k t-d+j+(d+1):=by omega
   have e2:((j:Int)+1).toNat=j+1:=by omega
   simp only[aa.all,ax,decide_eq_true_eq,decide_eq_false_iff_not,Int.toNat_natCast,Nat.add_zero,e0,e1,e2,JC]
   have hjj:(j==j+1)=false:=by simp
   refine⟨fun h4=>?_,fun h4=>⟨rfl,j,by omega,[(0,0),(2,2),(3,3)],rfl,rfl,rfl,bB rfl rfl rfl (fun i hi=>aE rfl rfl) (bB rfl rfl rfl (fun i hi=>aE rfl rfl) (aF rfl rfl (aE rfl rfl) trivial))⟩⟩
   (repeat' with_reducible refine And.intro ?_ ?_)
   all_goals first|omega|(rw[s1];omega)|(rw[hjj,cond_false,s0];unfold HB;omega)|skip
   refine⟨j+1,by omega,by dsimp only;omega,[(0,0),(2,2),(3,3)],rfl,rfl,rfl,bB rfl rfl rfl (fun x hx=>abK (by omega)) (bB rfl rfl rfl (fun i hi=>aE rfl rfl) (aF rfl rfl (aE rfl rfl) trivial))⟩
  ·subst hj
   refine aq.tail (fun s' hh=>by have:=hh.1;omega) (aD.bk hT zq hm 60 lX Q4 (by kernel_rfl) ?_)
   simp only[aa.all,ax]
   refine⟨by omega,fun s' hs'=>⟨d+1,⟨hd',hin⟩,by dsimp only;omega,dN.le ⟨[(0,0),(2,3)],rfl,rfl,rfl,bB rfl rfl rfl (fun x hx=>?_) (aF rfl rfl (aE rfl rfl) trivial)⟩ hs' hk⟩⟩
   refine .inr ⟨rfl,bG ?_ ?_⟩
   ·unfold kZ
    by_cases hlt:x<d+1
    ·rw[if_pos hlt]
    ·have:x=d+1:=by omega
     subst this
     rw[if_neg (by omega),if_pos rfl,vB,if_neg (show¬d+1≤d by omega),Rat.add_zero];rfl
   ·have h1:=Dp (d:=d)
    have h2:=tD (d:=d)
    have hF:=BE
    show _≤SB (d+1)
    unfold jl HB
    split
    ·omega
    ·split<;>omega
 ·subst hd
  refine aq.jK ((aD.fin hT zq hm 60 ZY (by kernel_rfl) ?_).mono fun _ _ h=>.inl h)
  simp only[aa.all,ax]
  exact⟨by have:=hiv hin;omega,WD hin fun j _=>fe (yX hp6)⟩
end Go.Am.B

/- basis.Sum; numbers of zS. -/
namespace Go.Am.B
open Go Go.Am.N AV aa ak IntKind
theorem Sk:aP P qS uX (au uX):=aQ aaN (by kernel_rfl) (by kernel_rfl) (by kernel_rfl)
theorem Xj:aP P Ck zR (au zR):=aQ ac3 (by kernel_rfl) (by kernel_rfl) (by kernel_rfl)
def MG:Spec:=cD Jg (fun a=>Bz a.1.1 a.1.2 a.2.1.toNat a.2.2.1) fun a=>[Kn a.1.1 a.2.1.toNat a.1.2,0≤a.2.1,a.2.1≤6,a.1.1<2^40]
theorem Tf:∀K args pre r,MG K args pre=some r→aA P xW K args pre r:=cj fun⟨⟨n,k⟩,p,t,_⟩ K hn=>by
 obtain⟨h1,h2,h3,h4⟩:=hn
 have h3:p≤6:=h3
 have:=aax h1 (by simp only;omega) h4 K (t:=t)
 rw[Int.toNat_of_nonneg h2]at this
 exact this
def pU:Spec:=cD (kC (kL sK) (kC kI kN)) (fun a=>.int .i64 ((a.1.1:Int)-a.2.1-1)) fun a=>[a.1.1<2^40,-2^40<a.2.1,a.2.1<2^40]
theorem aja {n:Nat} {k:Nat→Rat} {p:Int}:bC T [nG] [] 60 uX (au uX) ⟨aN 0 [ls k n,.int .i64 p],[],0⟩=
  let c3:Int:=(↑n:Int)-p;let c1:Int:=(2:Int)^63;let c2:Int:=c3-(1:Int);some (ag [-c1≤c3∧c3<c1,-c1≤c2∧c2<c1] (leaf ret [int i64 c2])):=by kernel_rfl
theorem adL {n:Nat} {k:Nat→Rat} {p:Int}:bC T [nG] [] 60 zR (au zR) ⟨aN 0 [ls k n,.int .i64 p],[],0⟩=
  let c3:Int:=(↑n:Int)-p;let c1:Int:=(2:Int)^63;let c2:Int:=c3-(1:Int);some (ag [-c1≤c3∧c3<c1,-c1≤c2∧c2<c1] (leaf ret [int i64 c2])):=by kernel_rfl
theorem Dg:∀K args pre r,pU K args pre=some r→aA P qS K args pre r:=cj fun⟨⟨n,k⟩,p,_⟩ K hn=>by
 obtain⟨h1,h2,h3⟩:=hn
 have h3:p<2^40:=h3
 simp only at h1 h2
 refine bJ (r:=aG (.int .i64 ((n:Int)-p-1)) []) hT (cL bp) hm Sk rfl (of_decide_eq_true (by kernel_rfl)) rfl 60 aja (fun _=>?_) K []
 simp only[aa.all,ax]
 exact⟨by omega,.refl _⟩
theorem ahc:∀K args pre r,pU K args pre=some r→aA P Ck K args pre r:=cj fun⟨⟨n,k⟩,p,_⟩ K hn=>by
 obtain⟨h1,h2,h3⟩:=hn
 have h3:p<2^40:=h3
 simp only at h1 h2
 refine bJ (r:=aG (.int .i64 ((n:Int)-p-1)) []) hT (cL bp) hm Xj rfl (of_decide_eq_true (by kernel_rfl)) rfl 60 adL (fun _=>?_) K []
 simp only[aa.all,ax]
 exact⟨by omega,.refl _⟩
abbrev zO:ah:=⟨false,true,3,1,fun _=>.rat 0 1⟩
abbrev sU:Nat:=4294967296
theorem L8 {n:Nat} {k:Nat→Rat} {t:Rat} (h:eU n k t≠0):dM n k t:=by
 unfold eU at h
 by_cases ho:dM n k t
 ·exact ho
 ·rw[if_neg ho]at h;exact absurd rfl h
theorem LP {n:Nat} {k:Nat→Rat} {t:Rat} (h:eU n k t=0):¬dM n k t:=fun ho=>by unfold eU at h;rw[if_pos ho]at h;omega
theorem Kn.HH {n p:Nat} {k:Nat→Rat} (h:Kn n p k) {t:Rat} (hin:¬dM n k t):p≤bz n k t∧bz n k t+p+1<n:=by
 have h1:¬t<k 0:=fun h=>hin (.inl h)
 have h2:¬k (n-1)<t:=fun h=>hin (.inr h)
 exact(h.Is (by grind) (by grind)).2
end Go.Am.B

/- Plain laws of gl: multiplicities, different gl, which lists are valid. -/
namespace Go.Am.B
def aU (k:Nat→Rat) (t:Rat):Nat→Nat
 |0=>0
 |i+1=>aU k t i+if k i=t then 1 else 0
def gh (k:Nat→Rat) (i:Nat):Prop:=i=0∨k i≠k (i-1)
instance {k:Nat→Rat} {i:Nat}:Decidable (gh k i):=inferInstanceAs (Decidable (i=0∨k i≠k (i-1)))
def bZ (k:Nat→Rat):Nat→Nat
 |0=>0
 |i+1=>bZ k i+if gh k i then 1 else 0
def dw (k:Nat→Rat):Nat→Nat→Rat
 |0=>fun _=>0
 |i+1=>if gh k i then kJ (dw k i) (bZ k i) (k i)else dw k i
theorem Dx {k:Nat→Rat} {t:Rat}:∀{n:Nat},aU k t n≤n
 |0=>Nat.le_refl _
 |n+1=>by
  have:=Dx (k:=k) (t:=t) (n:=n)
  unfold aU;split<;>omega
theorem uC {k:Nat→Rat}:∀{n:Nat},bZ k n≤n
 |0=>Nat.le_refl _
 |n+1=>by
  have:=uC (k:=k) (n:=n)
  unfold bZ;split<;>omega
theorem He {k:Nat→Rat}:∀{n j:Nat},j<bZ k n→∃i,i<n∧dw k n j=k i
 |0,j,h=>by simp[bZ]at h
 |n+1,j,h=>by
  rw[dw]
  rw[bZ]at h
  by_cases hn:gh k n
  ·rw[if_pos hn]at h ⊢
   by_cases he:j=bZ k n
   ·subst he;exact⟨n,by omega,uP⟩
   ·obtain⟨i,h1,h2⟩:=He (k:=k) (n:=n) (j:=j) (by omega)
    exact⟨i,by omega,by rw[lD he];exact h2⟩
  ·rw[if_neg hn]at h ⊢
   obtain⟨i,h1,h2⟩:=He (k:=k) (n:=n) (j:=j) (by omega)
   exact⟨i,by omega,h2⟩
def qV (n:Nat) (k:Nat→Rat):Prop:=∀i,i+1<n→k i≤k (i+1)
def jO (n:Nat) (k:Nat→Rat) (p:Nat) (t:Rat):Prop:=((t=k 0∨t=k (n-1))∧aU k t n≠p+1)∨(¬(t=k 0∨t=k (n-1))∧p<aU k t n)
instance {n:Nat} {k:Nat→Rat} {p:Nat} {t:Rat}:Decidable (jO n k p t):=inferInstanceAs (Decidable (((t=k 0∨t=k (n-1))∧aU k t n≠p+1)∨(¬(t=k 0∨t=k (n-1))∧p<aU k t n)))
def qK (n:Nat) (k:Nat→Rat) (p:Nat):Prop:=qV n k∧k 0≠k (n-1)∧∀j,j<bZ k n→¬jO n k p (dw k n j)
open Classical in
noncomputable def fZ (n:Nat) (k:Nat→Rat) (p:Int):Int:=
 if p<1∨6<p then 1 else if(n:Int)<2*p+2 then 5 else if 40<(n:Int)-p-1 then 2 else if qK n k p.toNat then 0 else 5
theorem QC {k:Nat→Rat} {t:Rat} {a b:Nat} (hab:a≤b):∀{n:Nat},(∀i,i<n→k i=t→a≤i∧i<b)→aU k t n≤min n b-min n a
 |0,_=>by simp[aU]
 |n+1,h=>by
  have ih:=QC (k:=k) (t:=t) hab (n:=n) fun i hi=>h i (by omega)
  rw[aU]
  split
  ·rename_i e
   have:=h n (by omega) e
   omega
  ·omega
theorem GH {k:Nat→Rat} {t:Rat} {a b:Nat} (hab:a≤b):∀{n:Nat},(∀i,i<n→(k i=t↔a≤i∧i<b))→aU k t n=min n b-min n a
 |0,_=>by simp[aU]
 |n+1,h=>by
  have ih:=GH (k:=k) (t:=t) hab (n:=n) fun i hi=>h i (by omega)
  rw[aU]
  have:=h n (by omega)
  split
  ·rename_i e
   have:=this.1 e
   omega
  ·rename_i e
   have:¬(a≤n∧n<b):=fun h=>e (this.2 h)
   omega
theorem least {q:Nat→Prop} [DecidablePred q]:∀{n:Nat},q n→∃a,a≤n∧q a∧∀i,i<a→¬q i
 |0,h=>⟨0,Nat.le_refl _,h,fun i hi=>by omega⟩
 |n+1,h=>by
  by_cases h2:∃i,i<n+1∧q i
  ·obtain⟨i,hi,hq⟩:=h2
   obtain⟨a,h3,h4,h5⟩:=least_lt hi hq
   exact⟨a,by omega,h4,h5⟩
  ·exact⟨n+1,Nat.le_refl _,h,fun i hi hq=>h2 ⟨i,hi,hq⟩⟩
where
 least_lt {q:Nat→Prop} [DecidablePred q]:∀{n i:Nat},i<n→q i→∃a,a<n∧q a∧∀i,i<a→¬q i
 |0,i,h,_=>by omega
 |n+1,i,h,hq=>by
  by_cases h2:∃j,j<n∧q j
  ·obtain⟨j,hj,hq⟩:=h2
   obtain⟨a,h3,h4,h5⟩:=least_lt hj hq
   exact⟨a,by omega,h4,h5⟩
  ·have:i=n:=by
    by_cases e:i=n
    ·exact e
    ·exact absurd ⟨i,by omega,hq⟩ h2
   subst this
   exact⟨i,h,hq,fun j hj hq=>h2 ⟨j,hj,hq⟩⟩
theorem Kn.qK {n p:Nat} {k:Nat→Rat} (h:Kn n p k):qK n k p:=by
 have hp:=h.p1
 have hl:=h.len
 have hw:k p<k (p+1):=by
  have:=h.mult 1 (by omega) (by omega)
  rw[h.first 1 (by omega),show 1+p=p+1 by omega]at this
  rw[h.first p (by omega)];exact this
 have hw2:k (n-p-2)<k (n-p-1):=by
  by_cases he:n=2*p+2
  ·have e1:n-p-2=p:=by omega
   have e2:n-p-1=p+1:=by omega
   rw[e1,e2];exact hw
  ·have:=h.mult (n-p-2) (by omega) (by omega)
   rw[h.last (n-p-2+p) (by omega) (by omega),←h.last (n-p-1) (by omega) (by omega)]at this
   exact this
 have m:∀{i j},i≤j→j<n→k i≤k j:=fun hi hj=>fS h.sorted hi hj
 have h0l:k 0<k (n-1):=by
  have a:=m (i:=p+1) (j:=n-1) (by omega) (by omega)
  have b:=h.first p (Nat.le_refl _)
  grind
 refine⟨h.sorted,by grind,fun j hj=>?_⟩
 obtain⟨i,hi,e⟩:=He hj
 rw[e]
 unfold jO
 by_cases h0:k i=k 0
 ·have:aU k (k i) n=p+1:=by
   rw[GH (a:=0) (b:=p+1) (by omega) (n:=n) fun x hx=>?_]
   ·omega
   ·rw[h0]
    constructor
    ·intro ex
     refine⟨by omega,?_⟩
     by_cases hx2:x<p+1
     ·exact hx2
     ·have:=m (i:=p+1) (j:=x) (by omega) hx
      have b:=h.first p (Nat.le_refl _)
      grind
    ·intro hx2;exact h.first x (by omega)
  rw[this]
  simp[h0]
 ·by_cases h1:k i=k (n-1)
  ·have:aU k (k i) n=p+1:=by
    rw[GH (a:=n-p-1) (b:=n) (by omega) (n:=n) fun x hx=>?_]
    ·omega
    ·rw[h1]
     constructor
     ·intro ex
      refine⟨?_,hx⟩
      by_cases hx2:n-p-1≤x
      ·exact hx2
      ·have:=m (i:=x) (j:=n-p-2) (by omega) (by omega)
       have b:=h.last (n-p-1) (by omega) (by omega)
       grind
     ·intro hx2;exact h.last x (by omega) hx
   rw[this]
   simp[h1]
  ·obtain⟨a,ha,e,hlt⟩:=least (q:=fun x=>k x=k i) (n:=i) rfl
   have ha0:p<a:=by
    by_cases hx:p<a
    ·exact hx
    ·have:=h.first a (by omega)
     rw[this]at e;exact absurd e.symm h0
   have hal:a+p+1<n:=by
    by_cases hx:a+p+1<n
    ·exact hx
    ·have:=h.last a (by omega) (by omega)
     rw[this]at e;exact absurd e.symm h1
   have hm:=h.mult a (by omega) hal
   have:aU k (k i) n≤min n (a+p)-min n a:=by
    refine QC (by omega) fun x hx ex=>⟨?_,?_⟩
    ·by_cases hx2:a≤x
     ·exact hx2
     ·exact absurd ex (hlt x (by omega))
    ·by_cases hx2:x<a+p
     ·exact hx2
     ·have:=m (i:=a+p) (j:=x) (by omega) hx
      grind
   intro hb
   rcases hb with⟨h2,_⟩|⟨_,h2⟩
   ·exact h2.elim h0 h1
   ·omega
theorem Kn.IW {n p:Nat} {k:Nat→Rat} (h:Kn n p k) (hp6:p≤6) (hn:n≤p+41):fZ n k p=0:=by
 have hp:=h.p1
 have hl:=h.len
 unfold fZ
 rw[if_neg (by omega),if_neg (by omega),if_neg (by omega),if_pos (by rw[Int.toNat_natCast];exact h.qK)]
end Go.Am.B

/- Plain laws of gl: how the different ones are moved to the front; which lists are sorted. -/
namespace Go.Am.B
def hH (k:Nat→Rat) (l i:Nat):Rat:=if i<bZ k l then dw k l i else k i
theorem Eo {k:Nat→Rat}:∀{b:Nat},(∀i,i<b→gh k i)→bZ k b=b∧∀i,i<b→dw k b i=k i
 |0,_=>⟨rfl,fun i hi=>by omega⟩
 |b+1,h=>by
  obtain⟨h1,h2⟩:=Eo (k:=k) (b:=b) fun i hi=>h i (by omega)
  rw[bZ,dw,if_pos (h b (by omega)),if_pos (h b (by omega)),h1]
  refine⟨rfl,fun i hi=>?_⟩
  unfold kJ
  split
  ·rename_i e;rw[e]
  ·exact h2 i (by omega)
theorem Rl {k:Nat→Rat} {b:Nat} (h:∀i,i<b→gh k i) (hb:¬gh k b):bZ k (b+1)=b∧∀i,hH k (b+1) i=k i:=by
 obtain⟨h1,h2⟩:=Eo h
 have e:bZ k (b+1)=b:=by rw[bZ,if_neg hb,h1];rfl
 refine⟨e,fun i=>?_⟩
 unfold hH
 rw[e,dw,if_neg hb]
 split
 ·exact h2 i ‹_›
 ·rfl
theorem I0 {k:Nat→Rat} {n:Nat} (h:∀i,i<n→gh k i):bZ k n=n∧∀i,i<n→dw k n i=k i:=Eo h
theorem aad {k:Nat→Rat} {l i:Nat} (h:gh k l) (hl:bZ k l≤l):hH k (l+1) i=if i=bZ k l then k l else hH k l i:=by
 unfold hH
 rw[bZ,dw,if_pos h,if_pos h]
 unfold kJ
 by_cases h1:i=bZ k l
 ·subst h1
  rw[if_pos (by omega),if_pos rfl,if_pos rfl]
 ·rw[if_neg h1]
  by_cases h2:i<bZ k l
  ·rw[if_pos (by omega),if_pos h2,if_neg h1]
  ·rw[if_neg (by omega),if_neg h2,if_neg h1]
theorem agU {k:Nat→Rat} {l i:Nat} (h:¬gh k l):bZ k (l+1)=bZ k l∧hH k (l+1) i=hH k l i:=by
 unfold hH
 rw[bZ,dw,if_neg h,if_neg h]
 exact⟨rfl,rfl⟩
theorem Zz {k:Nat→Rat} {l:Nat} (h:gh k l):bZ k (l+1)=bZ k l+1:=by rw[bZ,if_pos h]
theorem JF {k:Nat→Rat} {l:Nat} (h:¬gh k l):bZ k (l+1)=bZ k l:=by rw[bZ,if_neg h];rfl
theorem PA {k:Nat→Rat} {l i:Nat} (h:bZ k l≤i):hH k l i=k i:=by unfold hH;rw[if_neg (by omega)]
theorem Pp {k:Nat→Rat} {b:Nat} (hb:¬gh k b):∀{l:Nat},b<l→bZ k l<l
 |0,h=>by omega
 |l+1,h=>by
  by_cases he:l=b
  ·subst he;rw[JF hb];have:=uC (k:=k) (n:=l);omega
  ·have:=Pp hb (l:=l) (by omega)
   have h2:=uC (k:=k) (n:=l)
   rw[bZ];split<;>omega
open Classical in
theorem adT {n:Nat} {k:Nat→Rat} {p:Int} (h:p<1∨6<p):fZ n k p=1:=if_pos h
theorem afh {n:Nat} {k:Nat→Rat} {p:Int} (h:¬(p<1∨6<p)) (h2:(n:Int)<2*p+2):fZ n k p=5:=by unfold fZ;rw[if_neg h,if_pos h2]
theorem TF {n:Nat} {k:Nat→Rat} {p:Int} (h:¬(p<1∨6<p)) (h2:¬(n:Int)<2*p+2) (h3:40<(n:Int)-p-1):fZ n k p=2:=by unfold fZ;rw[if_neg h,if_neg h2,if_pos h3]
theorem VA {n:Nat} {k:Nat→Rat} {p:Int} (h:¬(p<1∨6<p)) (h2:¬(n:Int)<2*p+2) (h3:¬40<(n:Int)-p-1) (h4:qK n k p.toNat):fZ n k p=0:=by unfold fZ;rw[if_neg h,if_neg h2,if_neg h3,if_pos h4]
theorem HL {n:Nat} {k:Nat→Rat} {p:Int} (h:¬(p<1∨6<p)) (h2:¬(n:Int)<2*p+2) (h3:¬40<(n:Int)-p-1) (h4:¬qK n k p.toNat):fZ n k p=5:=by unfold fZ;rw[if_neg h,if_neg h2,if_neg h3,if_neg h4]
end Go.Am.B

/- gl.Times, ref08.Times; gl.copied. -/
namespace Go.Am.B
open Go Go.Am.N AV aa ak IntKind
theorem acN:aP P qc xC (au xC):=aQ aio (by kernel_rfl) (by kernel_rfl) (by kernel_rfl)
theorem aeP:aP P rX AN (au AN):=aQ UC (by kernel_rfl) (by kernel_rfl) (by kernel_rfl)
theorem Fb:aP P pM z8 (au z8):=aQ Tp (by kernel_rfl) (by kernel_rfl) (by kernel_rfl)
abbrev vt:List Nat:=[3,5,8,9,10]
abbrev yY (n:Nat) (k:Nat→Rat) (c i:Nat):List AV:=[.ptr 0 0 3 0 [],.int .i64 c,ls k n,.int .i64 n,.int .i64 i]
noncomputable abbrev Be:Code:=au xC
abbrev sJ:Nat:=4000
abbrev fF (m:Nat) (k:Nat→Rat):ah:=⟨true,true,3,m,fun i=>.rat (k i) sK⟩
abbrev xd:List Nat:=[3,9,10,11]
abbrev Fj (n:Nat) (k:Nat→Rat) (i:Nat):List AV:=[.own 0 3 0 i,bq k n sJ,.int .i64 n,.int .i64 i]
noncomputable abbrev mH:Code:=au z8
abbrev zN:List Nat:=[0,3,5,6]
abbrev vJ (n:Nat) (k:Nat→Rat) (c i:Nat):List AV:=[ls k n,.ptr 0 0 3 0 [],.int .i64 c,.int .i64 i]
noncomputable abbrev wY:Code:=au AN
theorem ajK {n:Nat} {k:Nat→Rat} {t:Rat}:aJ T gj [] 60 vt (before Be [1,1,0,1]) ⟨aN 0 [ls k n,.rat t sK],[],0⟩=
  some (leaf normal ([ptr 0 0 (aT (rat t sK)).size 0 [],int i64 (0:Int),aj 3 n fun i↦rat (k i) 4096,int i64 (↑n:Int),int i64 (0:Int)],[((0:Nat),ah.mk false true (aT (rat t sK)).size 1 fun x↦rat t 4096)])):=by kernel_rfl
theorem ahw {n c i:Nat} {k:Nat→Rat} {t:Rat}:aJ T gj [11,16] 60 vt [part Be [1,1,0,1,0,0]] ⟨aB vt (yY n k c i),[(0,tP t sK)],1⟩=
  let c10:Int:=(↑n:Int);let c9:Prop:=0<1;let c8:Int:=(↑c:Int)+(1:Int);let c7:AV:=aj 3 n fun i↦rat (k i) 4096;let c5:Int:=(↑i:Int);let c4:AV:=ptr 0 0 3 0 [];let c2:Int:=(2:Int)^63;let c1:Nat×ah:=((0:Nat),ah.mk false true 3 1 fun x↦rat t 4096);let c6:Int:=c5+(1:Int);let c3:List AV:=[c7,int i64 c10,int i64 c6];some (fork (decide (c5<c10)) (ag [(0:Int)≤c5∧c5.toNat<n,c9] (ag [c9,c9] (fork (decide (k c5.toNat=t)) (ag [-c2≤c8∧c8<c2] (ag [-c2≤c6∧c6<c2] (leaf normal (c4::int i64 c8::c3,[c1])))) (ag [-c2≤c6∧c6<c2] (leaf normal (c4::int i64 (↑c:Int)::c3,[c1])))))) (leaf (exit 0) ([c4,int i64 (↑c:Int),c7,int i64 c10,int i64 c5],[c1]))):=by kernel_rfl
theorem Ua {n c i:Nat} {k:Nat→Rat} {t:Rat}:bY T gj [] 60 xC [part Be [1,1,1]] ⟨aB vt (yY n k c i),[(0,tP t sK)],1⟩=
  some (leaf ret [int i64 (↑c:Int)]):=by kernel_rfl
theorem T8 {n:Nat} {k:Nat→Rat} {t:Rat}:aJ T mo [] 60 zN (before wY [1,1,0,1]) ⟨aN 0 [ls k n,.rat t sK],[],0⟩=
  some (leaf normal ([aj 3 n fun i↦rat (k i) 4096,ptr 0 0 (aT (rat t sK)).size 0 [],int i64 (0:Int),int i64 (0:Int)],[((0:Nat),ah.mk false true (aT (rat t sK)).size 1 fun x↦rat t 4096)])):=by kernel_rfl
theorem aab {n c i:Nat} {k:Nat→Rat} {t:Rat}:aJ T mo [10,18] 60 zN [part wY [1,1,0,1,0,0]] ⟨aB zN (vJ n k c i),[(0,tP t sK)],1⟩=
  let c7:Int:=(↑c:Int)+(1:Int);let c6:Int:=(↑i:Int);let c5:AV:=ptr 0 0 3 0 [];let c4:AV:=aj 3 n fun i↦rat (k i) 4096;let c3:Int:=(2:Int)^63;let c1:Nat×ah:=((0:Nat),ah.mk false true 3 1 fun x↦rat t 4096);let c2:Int:=c6+(1:Int);some (fork (decide (c6<(↑n:Int))) (ag [(0:Int)≤c6∧c6.toNat<n,(0:Nat)<1] (fork (decide (k c6.toNat=t)) (ag [-c3≤c7∧c7<c3] (ag [-c3≤c2∧c2<c3] (leaf normal ([c4,c5,int i64 c7,int i64 c2],[c1])))) (ag [-c3≤c2∧c2<c3] (leaf normal ([c4,c5,int i64 (↑c:Int),int i64 c2],[c1]))))) (leaf (exit 0) ([c4,c5,int i64 (↑c:Int),int i64 c6],[c1]))):=by kernel_rfl
theorem Sd {n c i:Nat} {k:Nat→Rat} {t:Rat}:bY T mo [] 60 AN [part wY [1,1,1]] ⟨aB zN (vJ n k c i),[(0,tP t sK)],1⟩=
  some (leaf ret [int i64 (↑c:Int)]):=by kernel_rfl
theorem SU {n:Nat} {k:Nat→Rat}:aJ T gj [] 60 xd (before mH [1,1,0,1]) ⟨aN 0 [bq k n sJ],[],0⟩=
  let c1:Int:=(↑n:Int);some (ag [(0:Int)≤(0:Int)∧(0:Int)≤c1∧c1≤(2:Int)^47∧c1*(↑(56:Nat):Int)≤(2:Int)^47] (leaf normal ([own 12288 3 0 0,aj 3 n fun i↦rat (k i) 4000,int i64 c1,int i64 (0:Int)],[((12288:Nat),ah.mk true true 3 0 fun x↦rat 0 1)]))):=by kernel_rfl
theorem Ul {n i:Nat} {k:Nat→Rat}:aJ T gj [12] 60 xd [part mH [1,1,0,1,0,0]] ⟨aB xd (Fj n k i),[(0,fF i k)],1⟩=
  let c4:Int:=(↑n:Int);let c2:AV:=aj 3 n fun i↦rat (k i) 4000;let c1:Int:=(↑i:Int);let c3:Int:=c1+(1:Int);some (fork (decide (c1<c4)) (ag [(0:Int)≤c1∧c1.toNat<n,(0:Nat)<1] (ag [(0:Nat)<1,(1:Nat)*3≤2^24,(i+1)*((56:Nat)+1)*2≤2^47] (ag [-(2:Int)^63≤c3∧c3<(2:Int)^63] (leaf normal ([own 40961 3 0 (i+1),c2,int i64 c4,int i64 c3],[((40961:Nat),ah.mk true true 3 (i+1) fun i_1↦if i_1<i then rat (k i_1) sK else nth [rat (k c1.toNat+0) (sJ+1+1)] (rat 0 1) (i_1-i+0))]))))) (leaf (exit 0) ([own 0 3 0 i,c2,int i64 c4,int i64 c1],[((0:Nat),ah.mk true true 3 i fun i↦rat (k i) 4096)]))):=by kernel_rfl
theorem VK {n i:Nat} {k:Nat→Rat}:aJ T gj [] 60 [2] [part mH [1,1,1]] ⟨aB xd (Fj n k i),[(0,fF i k)],1⟩=
  some (leaf ret ([own 0 3 0 i],[((0:Nat),ah.mk true true 3 i fun i↦rat (k i) 4096)])):=by kernel_rfl
theorem IU {k:Nat→Rat} {t:Rat} {i:Nat} (h:k i=t):aU k t (i+1)=aU k t i+1:=by rw[aU,if_pos h]
theorem K2 {k:Nat→Rat} {t:Rat} {i:Nat} (h:¬k i=t):aU k t (i+1)=aU k t i:=by rw[aU,if_neg h];rfl
theorem agm {n:Nat} {k:Nat→Rat} {t:Rat} (hn:n<2^40) (K:Nat):aA P qc K [ls k n,.rat t sK] [] (aG (.int .i64 (aU k t n)) []):=by
 refine fD (r:=aG (.int .i64 (aU k t n)) []) hT jZ hm acN rfl (of_decide_eq_true (by kernel_rfl)) rfl [1,1,0,1] (i:=0) (y:=part Be [1,1,0,1,0,0]) (z:=part Be [1,1,1]) (by kernel_rfl) (by kernel_rfl) (by kernel_rfl) (f1:=[]) (f2:=[11,16]) (f3:=[]) 60 vt 1
  (fun i:Nat=>yY n k (aU k t i) i) (fun _=>[(0,tP t sK)]) (fun i=>i≤n) (fun i=>i=n) (fun i=>n-i) (fun _=>⟨⟨_,ajK,?_⟩,fun i hi=>⟨_,ahw,?_⟩,fun i hi=>⟨_,Ua,?_⟩⟩) K []
 ·simp only[aa.all,ax]
  exact⟨0,Nat.zero_le _,[(0,0)],rfl,rfl,rfl,aF rfl rfl (aE rfl rfl) trivial⟩
 ·have h1:=Dx (k:=k) (t:=t) (n:=i)
  simp only[aa.all,ax,decide_eq_true_eq,decide_eq_false_iff_not,Int.toNat_natCast,Nat.add_zero]
  refine⟨fun h2=>⟨by omega,by omega,fun h3=>⟨by omega,by omega,i+1,by omega,by dsimp only;omega,[(0,0)],rfl,?_,rfl,aF rfl rfl (aE rfl rfl) trivial⟩,fun h3=>⟨by omega,i+1,by omega,by dsimp only;omega,[(0,0)],rfl,?_,rfl,aF rfl rfl (aE rfl rfl) trivial⟩⟩,fun h2=>⟨rfl,i,by omega,[(0,0)],rfl,rfl,rfl,aF rfl rfl (aE rfl rfl) trivial⟩⟩
  ·show _=(yY n k (aU k t (i+1)) (i+1)).map _
   rw[IU h3];rfl
  ·show _=(yY n k (aU k t (i+1)) (i+1)).map _
   rw[K2 h3];rfl
 ·subst hi
  simp only[aa.all,ax]
  exact .refl _
theorem ajG {n:Nat} {k:Nat→Rat} {t:Rat} (hn:n<2^40) (K:Nat):aA P rX K [ls k n,.rat t sK] [] (aG (.int .i64 (aU k t n)) []):=by
 refine fD (r:=aG (.int .i64 (aU k t n)) []) hT HP hm aeP rfl (of_decide_eq_true (by kernel_rfl)) rfl [1,1,0,1] (i:=0) (y:=part wY [1,1,0,1,0,0]) (z:=part wY [1,1,1]) (by kernel_rfl) (by kernel_rfl) (by kernel_rfl) (f1:=[]) (f2:=[10,18]) (f3:=[]) 60 zN 1
  (fun i:Nat=>vJ n k (aU k t i) i) (fun _=>[(0,tP t sK)]) (fun i=>i≤n) (fun i=>i=n) (fun i=>n-i) (fun _=>⟨⟨_,T8,?_⟩,fun i hi=>⟨_,aab,?_⟩,fun i hi=>⟨_,Sd,?_⟩⟩) K []
 ·simp only[aa.all,ax]
  exact⟨0,Nat.zero_le _,[(0,0)],rfl,rfl,rfl,aF rfl rfl (aE rfl rfl) trivial⟩
 ·have h1:=Dx (k:=k) (t:=t) (n:=i)
  simp only[aa.all,ax,decide_eq_true_eq,decide_eq_false_iff_not,Int.toNat_natCast,Nat.add_zero]
  refine⟨fun h2=>⟨by omega,fun h3=>⟨by omega,by omega,i+1,by omega,by dsimp only;omega,[(0,0)],rfl,?_,rfl,aF rfl rfl (aE rfl rfl) trivial⟩,fun h3=>⟨by omega,i+1,by omega,by dsimp only;omega,[(0,0)],rfl,?_,rfl,aF rfl rfl (aE rfl rfl) trivial⟩⟩,fun h2=>⟨rfl,i,by omega,[(0,0)],rfl,rfl,rfl,aF rfl rfl (aE rfl rfl) trivial⟩⟩
  ·show _=(vJ n k (aU k t (i+1)) (i+1)).map _
   rw[IU h3];rfl
  ·show _=(vJ n k (aU k t (i+1)) (i+1)).map _
   rw[K2 h3];rfl
 ·subst hi
  simp only[aa.all,ax]
  exact .refl _
abbrev ai0:qN ((Nat×(Nat→Rat))×Rat×Unit):=kC (kL sK) (kC (fq sK) kN)
noncomputable def oX:Spec:=cD ai0 (fun a=>.int .i64 (aU a.1.2 a.2.1 a.1.1)) fun a=>[a.1.1<2^40]
theorem Im:∀K args pre r,oX K args pre=some r→aA P qc K args pre r:=cj fun⟨⟨n,k⟩,t,_⟩ K hn=>agm hn K
theorem Gu:∀K args pre r,oX K args pre=some r→aA P rX K args pre r:=cj fun⟨⟨n,k⟩,t,_⟩ K hn=>ajG hn K
theorem acs {args:List AV} {n:Nat} {k:Nat→Rat} {l:List Prop} (ha:ax l→fm (aV []) args [bq k n sJ]) (hn:ax l→n<2^40) (K:Nat):aA P pM K args [] ⟨kA [.own K 3 0 n],[(K,fF n k)],l⟩:=by
 refine Qg hT Fb ha (of_decide_eq_true (by kernel_rfl)) fun need c hk=>?_
 have hn:=hn need
 refine aq.jE hT jZ hm [1,1,0,1] (i:=0) (y:=part mH [1,1,0,1,0,0]) (z:=part mH [1,1,1]) (by kernel_rfl) (by kernel_rfl) (by kernel_rfl) Fb.dst hk (f1:=[]) (f2:=[12]) 60 xd 1 (fun i:Nat=>Fj n k i) (fun i=>[(0,fF i k)])
  (fun i=>i≤n) (fun i=>i=n) (fun i=>n-i) (fun _=>False) ⟨_,SU,?_⟩ (fun i hi=>⟨_,Ul,?_⟩) (fun i hi=>?_) (fun _ _ h=>h.elim)
 ·simp only[aa.all,ax]
  exact⟨by omega,0,Nat.zero_le _,[(0,12288)],rfl,rfl,rfl,bB rfl rfl rfl (fun i hi=>absurd hi (Nat.not_lt_zero i)) trivial⟩
 ·simp only[aa.all,ax,decide_eq_true_eq,decide_eq_false_iff_not,Int.toNat_natCast,Nat.add_zero]
  exact⟨fun h2=>⟨by omega,by omega,by omega,i+1,by omega,by dsimp only;omega,[(0,40961)],rfl,rfl,rfl,bB rfl rfl rfl (fun j hj=>jL (fun _ _=>rfl) (Rat.add_zero _) (Nat.le_refl _) (by decide) hj) trivial⟩,fun h2=>⟨rfl,i,by omega,[(0,0)],rfl,rfl,rfl,bB rfl rfl rfl (fun j hj=>aE rfl rfl) trivial⟩⟩
 ·subst hi
  refine aq.bk hT jZ hm 60 [2] VK (by kernel_rfl) fun s' hs'=>⟨.inr rfl,[2],_,[.own 0 3 0 i],_,0,_,hs',by kernel_rfl,⟨⟨rfl,cV (by simp[aV,look]) rfl rfl⟩,trivial⟩,rfl,je rfl fun i hi=>aK rfl⟩
noncomputable def PR:Spec:=tG fun K l=>match l with
 |[v]=>match(kL sJ).read v with
  |some ((n,k),q)=>some ⟨.own K 3 0 n,[(K,fF n k)],q++[n<2^40]⟩
  |none=>none
 |_=>none
theorem Tx:∀K args pre r,PR K args pre=some r→aA P pM K args pre r:=by
 refine Bo fun K args r hk hs=>?_
 split at hs
 ·rename_i v
  split at hs
  ·rename_i n k q hv
   simp only[Option.some.injEq]at hs
   subst hs
   exact acs (fun hn=>HZ hk (by cases v<;>first|rfl|simp[kL,C1]at hv) ⟨(kL sJ).ok hv (er.1 hn).1,trivial⟩) (fun hn=>(er (a:=q) (b:=[n<2^40]).1 hn).2) K
  ·simp at hs
 ·simp at hs
end Go.Am.B

/- slices.CompactFunc of numbers; gl.Distinct. -/
namespace Go.Am.B
open Go Go.Am.N AV aa ak IntKind
theorem LZ:aP P Cw CN (au CN):=aQ akf (by kernel_rfl) (by kernel_rfl) (by kernel_rfl)
theorem Yt:aP P DX Ab (au Ab):=aQ WJ (by kernel_rfl) (by kernel_rfl) (by kernel_rfl)
noncomputable abbrev tR:Func:=CN
noncomputable abbrev xJ:Code:=au tR
noncomputable abbrev uz:Code:=part xJ [1,1,0,1,0,0]
noncomputable abbrev uf:Code:=part uz [1,0,0]
noncomputable abbrev ou:Code:=part uf [1,0]
abbrev jA:List Nat:=[4,0,1,5]
abbrev AD (n i:Nat):List AV:=[.nil,.own 0 3 0 n,.func fW [],.int .i64 i]
abbrev CQ:List Nat:=[4,0,1,5,28]
abbrev EX (n i:Nat) (b:Bool):List AV:=[.nil,.own 0 3 0 n,.func fW [],.int .i64 i,.bool b]
abbrev A7:List Nat:=[4,0,1,5,6,7]
abbrev s5 (n m b j:Nat):List AV:=[.nil,.own 0 3 0 n,.func fW [],.int .i64 m,.own 0 3 b (n-b),.int .i64 j]
theorem afl {n:Nat} {k:Nat→Rat}:aJ T gj [10] 60 jA (before xJ [1,1,0,1]) ⟨aN 0 [.own 0 3 0 n,.func fW []],[(0,fF n k)],1⟩=
  let c2:Nat×ah:=((0:Nat),ah.mk true true 3 n fun i↦rat (k i) 4096);let c1:AV:=own 0 3 0 n;some (fork (decide ((↑n:Int)<(2:Int))) (leaf ret ([c1,c1,func fW [],tuple []],[c2])) (leaf normal ([nil,c1,func fW [],int i64 (1:Int)],[c2]))):=by kernel_rfl
theorem ajF {n i:Nat} {k:Nat→Rat}:aJ T gj [15] 60 jA (before uz [1,0]) ⟨aB jA (AD n i),[(0,fF n k)],1⟩=
  let c1:List AV×aC:=([nil,own 0 3 0 n,func fW [],int i64 (↑i:Int)],[((0:Nat),ah.mk true true 3 n fun i↦rat (k i) 4096)]);some (fork (decide ((↑i:Int)<(↑n:Int))) (leaf normal c1) (leaf (exit 0) c1)):=by kernel_rfl
theorem YB {n i:Nat} {k:Nat→Rat}:aJ T gj [] 60 CQ (before uf [1]) ⟨aB jA (AD n i),[(0,fF n k)],1⟩=
  let c4:Int:=(↑i:Int);let c2:Nat:=c4.toNat+0;let c1:Int:=c4-(1:Int);let c3:Nat:=c1.toNat+0;some (ag [(0:Int)≤c4∧c4.toNat<n,c2<n,-(2:Int)^63≤c1∧c1<(2:Int)^63,(0:Int)≤c1∧c1.toNat<n,c3<n] (leaf normal ([nil,own 0 3 0 n,func fW [],int i64 c4,AV.bool (decide (k c2=k c3))],[((0:Nat),ah.mk true true 3 n fun i↦rat (k i) 4096)]))):=by kernel_rfl
theorem Rb {n i:Nat} {b:Bool} {k:Nat→Rat}:aJ T gj [] 60 A7 (before ou [1,0,1]) ⟨aB CQ (EX n i b),[(0,fF n k)],1⟩=
  let c2:Int:=(↑i:Int);let c1:Int:=(↑n:Int);some (ag [(0:Int)≤c2∧c2≤c1∧c1≤c1∧c1≤c1] (leaf normal ([nil,own 0 3 0 n,func fW [],int i64 c2,own 0 3 ((0:Nat)+c2.toNat) (c1.toNat-c2.toNat),int i64 (1:Int)],[((0:Nat),ah.mk true true 3 n fun i↦rat (k i) 4096)]))):=by kernel_rfl
theorem TL {n m b j:Nat} {k:Nat→Rat}:aJ T gj [35,49] 60 A7 [part ou [1,0,1,0,0]] ⟨aB A7 (s5 n m b j),[(0,fF n k)],1⟩=
  let c11:AV:=func fW [];let c7:AV:=own 0 3 b (n-b);let c6:Nat×ah:=((0:Nat),ah.mk true true 3 n fun i↦rat (k i) 4096);let c5:Int:=(↑m:Int);let c4:AV:=own 0 3 0 n;let c2:Int:=(2:Int)^63;let c1:Int:=(↑j:Int);let c13:Int:=c5+(1:Int);let c12:Prop:=(0:Int)≤c1∧c1.toNat<n-b;let c10:Nat:=c5.toNat+0;let c9:Nat:=c1.toNat+b;let c8:Int:=c1+(1:Int);let c3:Int:=c1-(1:Int);some (fork (decide (c1<(↑(n-b):Int))) (ag [c12,c9<n,-c2≤c3∧c3<c2,(0:Int)≤c3∧c3.toNat<n-b,c3.toNat+b<n] (fork (!decide (k c9=k (c3.toNat+b))) (ag [c12,c9<n,(0:Int)≤c5∧c5.toNat<n,c10<n] (ag [-c2≤c13∧c13<c2] (ag [-c2≤c8∧c8<c2] (leaf normal ([nil,c4,c11,int i64 c13,c7,int i64 c8],[((0:Nat),ah.mk true true 3 n fun j↦rat (bif j==c10 then k c9 else k j) (bif j==c10 then sK else sK))]))))) (ag [-c2≤c8∧c8<c2] (leaf normal ([nil,c4,c11,int i64 c5,c7,int i64 c8],[c6]))))) (leaf (exit 2) ([nil,c4,c11,int i64 c5,c7,int i64 c1],[c6]))):=by kernel_rfl
theorem ahZ {n m b j:Nat} {k:Nat→Rat}:aJ T gj [] 60 jA [part ou [1,1]] ⟨aB A7 (s5 n m b j),[(0,fF n k)],1⟩=
  let c4:Int:=(↑n:Int);let c2:Int:=(↑m:Int);let c3:Nat:=0+c2.toNat;let c1:Nat:=c3+(c4.toNat-c2.toNat);some (ag [(0:Int)≤c2∧c2≤c4∧c4≤c4∧c4≤c4] (ag [(0:Int)≤(0:Int)∧(0:Int)≤c2∧c2≤c2∧c2≤c4] (leaf ret ([own 0 3 0 (c2.toNat-Int.toNat (0:Int)),own 0 3 0 n,func fW [],int i64 c2],[((0:Nat),ah.mk true true 3 n fun i↦if c3≤i∧i<c1 then rat 0 1 else rat (k i) sK)])))):=by kernel_rfl
theorem ab6 {n i:Nat} {b:Bool} {k:Nat→Rat}:aJ T gj [] 60 jA [part uf [1,1],part uz [1,1]] ⟨aB CQ (EX n i b),[(0,fF n k)],1⟩=
  let c1:Int:=(↑i:Int)+(1:Int);some (ag [-(2:Int)^63≤c1∧c1<(2:Int)^63] (leaf normal ([nil,own 0 3 0 n,func fW [],int i64 c1],[((0:Nat),ah.mk true true 3 n fun i↦rat (k i) 4096)]))):=by kernel_rfl
theorem adI {n i:Nat} {k:Nat→Rat}:aJ T gj [] 60 jA [part xJ [1,1,1]] ⟨aB jA (AD n i),[(0,fF n k)],1⟩=
  let c1:AV:=own 0 3 0 n;some (leaf ret ([c1,c1,func fW [],int i64 (↑i:Int)],[((0:Nat),ah.mk true true 3 n fun i↦rat (k i) 4096)])):=by kernel_rfl
def kq (k:Nat→Rat) (n i:Nat):Rat:=if i<bZ k n then dw k n i else 0
theorem Rp {k:Nat→Rat} {n:Nat} (h:∀j,j<n→gh k j) {i:Nat} (hi:i<n):bZ k n=n∧kq k n i=k i:=by
 obtain⟨h1,h2⟩:=I0 h
 unfold kq
 rw[h1,if_pos hi]
 exact⟨rfl,h2 i hi⟩
theorem ac4 {kk n:Nat} {k:Nat→Rat} (hn:n<2^40) (c:Ctx) (hk:Kept [0] c):aq P c tR.ntmps xJ ⟨aN 0 [.own 0 3 0 n,.func fW []],[(0,fF n k)],1⟩ (Iz tR kk [.own kk 3 0 (bZ k n)] (fF n (kq k n))):=by
 have hall:∀{L:List Nat} {us:List AV},(∀j,j<n→gh k j)→kH (aB L us) tR.results.toList=some [.own 0 3 0 n]→BM tR kk [.own kk 3 0 (bZ k n)] (fF n (kq k n)) L (us,[(0,fF n k)]):=fun h1 h2=>
  ⟨_,_,h2,⟨⟨rfl,cV (by simp[aV,look]) rfl (I0 h1).1.symm⟩,trivial⟩,tM,rfl,rfl,rfl,rfl,fun i hi=>by
   show fX _ (.rat (k i) sK) (.rat (kq k n i) sK)
   rw[(Rp h1 hi).2];exact aK rfl⟩
 refine aq.DY hT jZ hm [1,1,0,1] (i:=0) (y:=uz) (z:=part xJ [1,1,1]) (by kernel_rfl) (by kernel_rfl) (by kernel_rfl) LZ.dst hk (f1:=[10]) 60 jA 1 (fun i:Nat=>AD n i) (fun _=>[(0,fF n k)]) (fun i=>1≤i∧i≤n∧∀j,j<i→gh k j) (fun i=>i=n∧∀j,j<n→gh k j) (fun i=>n-i)
  (BM tR kk [.own kk 3 0 (bZ k n)] (fF n (kq k n)) jA) ⟨_,afl,?_⟩ (fun i ⟨h1,h2,h3⟩=>?_) (fun i ⟨h1,h2⟩=>?_) (fun v s' hv hs'=>hv.fin hs')
 ·simp only[aa.all,ax,decide_eq_true_eq,decide_eq_false_iff_not]
  exact⟨fun h=>hall (fun j hj=>.inl (by omega)) (by kernel_rfl),fun h=>⟨1,⟨by omega,by omega,fun j hj=>.inl (by omega)⟩,[(0,0)],rfl,rfl,rfl,bB rfl rfl rfl (fun x hx=>aE rfl rfl) trivial⟩⟩
 ·refine aq.uI hT jZ hm (y:=uz) (x1:=uf) (zb:=part uz [1,1]) [1,0] (j:=1) (by kernel_rfl) (by kernel_rfl) (by kernel_rfl) (by kernel_rfl) hk (f1:=[15]) 60 jA 1 (fun _:Unit=>AD n i) (fun _=>[(0,fF n k)]) (fun _=>i<n) ⟨_,ajF,?_⟩ (fun _ hlt=>?_)
  ·simp only[aa.all,ax,decide_eq_true_eq,decide_eq_false_iff_not]
   exact⟨fun h=>⟨(),by omega,[(0,0)],rfl,rfl,rfl,bB rfl rfl rfl (fun x hx=>aE rfl rfl) trivial⟩,fun h s' hs'=>⟨rfl,i,⟨by omega,fun j hj=>h3 j (by omega)⟩,dN.le ⟨[(0,0)],rfl,rfl,rfl,bB rfl rfl rfl (fun x hx=>aE rfl rfl) trivial⟩ hs' hk⟩⟩
  refine aq.branch hT jZ hm (x:=uf) (u:=ou) (v:=part uf [1,1]) (b:=.tmp 28) [1] (by kernel_rfl) (by kernel_rfl) (by kernel_rfl) (by kernel_rfl) hk (f1:=[]) 60 CQ 1 (fun _:Unit=>EX n i (decide (k i=k (i-1)))) (fun _=>[(0,fF n k)]) (fun _=>True) ⟨_,YB,?_⟩ (fun _ _=>⟨decide (k i=k (i-1)),rfl,fun hb=>?_,fun hb=>?_⟩)
  ·simp only[aa.all,ax]
   simp only[Int.toNat_natCast,Nat.add_zero,show((i:Int)-1).toNat=i-1 by omega]
   exact⟨⟨⟨by omega,by omega⟩,by omega,by omega,⟨by omega,by omega⟩,by omega⟩,(),trivial,[(0,0)],rfl,rfl,rfl,bB rfl rfl rfl (fun x hx=>aE rfl rfl) trivial⟩
  ·have hold:¬gh k i:=fun h=>by
    rcases h with h|h
    ·omega
    ·exact h (of_decide_eq_true hb)
   obtain⟨s1,s2⟩:=Rl h3 hold
   refine aq.Ai hT jZ hm (x:=ou) [1,0,1] (i:=2) (y:=part ou [1,0,1,0,0]) (by kernel_rfl) (by kernel_rfl) (by kernel_rfl) hk (f1:=[]) (f2:=[35,49]) 60 A7 1 (fun j:Nat=>s5 n (bZ k (i+j)) i j) (fun j=>[(0,fF n (hH k (i+j)))]) (fun j=>1≤j∧i+j≤n) (fun j=>i+j=n) (fun j=>n-j) (fun _=>False) ⟨_,Rb,?_⟩ (fun j ⟨j1,j2⟩=>⟨_,TL,?_⟩) (fun j s' hj hle=>?_) (fun _ _ h=>h.elim)
   ·simp only[aa.all,ax]
    simp only[Int.toNat_natCast,Nat.zero_add]
    refine⟨by omega,1,⟨by omega,by omega⟩,[(0,0)],rfl,?_,rfl,bB rfl rfl rfl (fun x hx=>aE rfl ?_) trivial⟩
    ·show _=(s5 n (bZ k (i+1)) i 1).map _
     rw[s1];rfl
    ·rw[s2]
   ·simp only[aa.all,ax,decide_eq_true_eq,decide_eq_false_iff_not]
    have hd:=Pp hold (l:=i+j) (by omega)
    have e1:hH k (i+j) (j+i)=k (i+j):=by rw[Nat.add_comm j i];exact PA (by omega)
    have e2:hH k (i+j) (((j:Int)-1).toNat+i)=k (i+j-1):=by rw[show((j:Int)-1).toNat+i=i+j-1 by omega];exact PA (by omega)
    simp only[Int.toNat_natCast,Nat.add_zero,e1,e2,Bool.not_eq_true',Bool.not_eq_false',decide_eq_true_eq,decide_eq_false_iff_not]
    refine⟨fun h=>⟨by omega,fun hne=>⟨by omega,by omega,by omega,j+1,by omega,by dsimp only;omega,[(0,0)],rfl,?_,rfl,bB rfl rfl rfl (fun x hx=>?_) trivial⟩,fun heq=>⟨by omega,j+1,by omega,by dsimp only;omega,[(0,0)],rfl,?_,rfl,bB rfl rfl rfl (fun x hx=>?_) trivial⟩⟩,fun h=>⟨rfl,j,by omega,[(0,0)],rfl,rfl,rfl,bB rfl rfl rfl (fun x hx=>aE rfl rfl) trivial⟩⟩
    ·show _=(s5 n (bZ k (i+j+1)) i (j+1)).map _
     rw[Zz (l:=i+j) (.inr hne)];rfl
    ·refine .inr ⟨rfl,bG ?_ (by cases (x==bZ k (i+j))<;>exact Nat.le_refl _)⟩
     show _=hH k (i+j+1) x
     rw[aad (.inr hne) (by omega)]
     by_cases hx2:x=bZ k (i+j)
     ·subst hx2;simp
     ·have:(x==bZ k (i+j))=false:=by simpa using hx2
      rw[this,if_neg hx2];rfl
    ·have hold2:¬gh k (i+j):=fun h=>by
      rcases h with h|h
      ·omega
      ·exact h heq
     show _=(s5 n (bZ k (i+j+1)) i (j+1)).map _
     rw[JF hold2];rfl
    ·have hold2:¬gh k (i+j):=fun h=>by
      rcases h with h|h
      ·omega
      ·exact h heq
     exact aE rfl (by show _=AV.rat (hH k (i+j+1) x) sK;rw[(agU hold2).2])
   ·rw[show behind ou [1,0,1]=[part ou [1,1]]from by kernel_rfl]
    refine aD.weak rfl hle (aD.bk hT jZ hm 60 jA ahZ (by kernel_rfl) ?_)
    simp only[aa.all,ax]
    rw[hj]
    have hd:=uC (k:=k) (n:=n)
    simp only[Int.toNat_natCast,Nat.zero_add]
    refine⟨by omega,by omega,fun s' hs'=>⟨_,⟨[.own 0 3 0 (bZ k n)],⟨true,true,3,n,fun i=>if bZ k n≤i∧i<bZ k n+(n-bZ k n)then .rat 0 1 else .rat (hH k n i) sK⟩,by kernel_rfl,⟨⟨rfl,cV (by simp[aV,look]) rfl rfl⟩,trivial⟩,rfl,⟨rfl,rfl,rfl,rfl,fun x hx=>?_⟩⟩,hs'⟩⟩
    have hx:x<n:=hx
    refine mF (oD rfl rfl) ?_
    show bw (if _ then _ else _) (.rat (kq k n x) sK)
    unfold kq
    by_cases h:x<bZ k n
    ·rw[if_neg (by omega),if_pos h]
     exact cX (by unfold hH;rw[if_pos h])
    ·rw[if_pos (by omega),if_neg h]
     exact fe (by decide)
  ·have hnew:gh k i:=.inr (of_decide_eq_false hb)
   refine aq.tail (fun s' hh=>by have:=hh.1;omega) (aD.bk hT jZ hm 60 jA ab6 (by kernel_rfl) ?_)
   simp only[aa.all,ax]
   refine⟨by omega,fun s' hs'=>⟨i+1,⟨by omega,by omega,fun j hj=>?_⟩,by dsimp only;omega,dN.le ⟨[(0,0)],rfl,rfl,rfl,bB rfl rfl rfl (fun x hx=>aE rfl rfl) trivial⟩ hs' hk⟩⟩
   by_cases he:j=i
   ·subst he;exact hnew
   ·exact h3 j (by omega)
 ·subst h1
  refine aq.bk hT jZ hm 60 jA adI (by kernel_rfl) ?_
  simp only[aa.all,ax]
  exact fun s' hs'=>(hall h2 (by kernel_rfl)).fin hs'
def FY (f:Nat→AV) (n s:Nat):Prop:=∀i,i<n→keys (f i)=[]∧bw (f i) (.rat (aO (f i)) s)
theorem Rn {k:Nat→Rat} {n s s':Nat} (h:s≤s'):FY (fun i=>.rat (k i) s) n s':=fun _ _=>⟨rfl,fe h⟩
def FV:Spec:=fun _ args pre=>match args,pre with
 |[.own k 3 0 n,.func g []],[(k',⟨true,true,3,m,f⟩)]=>match Nat.beq g fW&&k'==k with
  |true=>some ⟨kA [.own k 3 0 (bZ (fun i=>aO (f i)) n)],[(k,fF n (kq (fun i=>aO (f i)) n))],[m=n,FY f n sK,n<2^40]⟩
  |false=>none
 |_,_=>none
theorem ahd:∀K args pre r,FV K args pre=some r→aA P Cw K args pre r:=by
 intro K args pre r h
 unfold FV at h
 split at h
 ·rename_i k n g k' m f
  split at h
  ·rename_i hc
   simp only[Bool.and_eq_true,beq_iff_eq]at hc
   obtain⟨h1,h2⟩:=hc
   have h1:=Nat.eq_of_beq_eq_true h1
   subst h1 h2
   simp only[Option.some.injEq]at h
   subst h
   intro need
   have h0:=need
   obtain⟨rfl,n1,n2⟩:=need
   exact Sl hT LZ (rest:=[.func fW []]) (o2:=⟨true,true,3,m,f⟩) (o:=fF m fun i=>aO (f i)) rfl rfl (of_decide_eq_true (by kernel_rfl)) (fun ρ=>⟨rfl,rfl,rfl,rfl,fun i hi=>mF (n1 i hi).1 (n1 i hi).2⟩) (fun _ c hk=>ac4 n2 c hk) K h0
  ·simp at h
 ·simp at h
end Go.Am.B
