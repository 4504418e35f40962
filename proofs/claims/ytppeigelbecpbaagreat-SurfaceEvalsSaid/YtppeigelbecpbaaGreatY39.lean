/- aS for numbers of known size: the numbers. -/
import Derived.Test.YtppeigelbecpbaaGreatB34
import Derived.Test.YtppeigelbecpbaaGreatZ2
set_option linter.unusedVariables false
namespace Go.Am.B
open Go Go.Am.N AV
structure Kd (α:Type) where
 read:AV→Option α
 make:α→AV
 ok:∀{v:AV} {a:α},read v=some a→bz v (make a)
def D9:AV→Option (V3×Nat)
 |.agg [x,y,z]=>match gO x,gO y,gO z with
  |some (x,a),some (y,b),some (z,c)=>some (⟨x,y,z⟩,max a (max b c))
  |_,_,_=>none
 |_=>none
theorem XY {v:AV} {a:V3×Nat} (h:D9 v=some a):bz v (vA a.1 a.2):=by
 unfold D9 at h
 split at h
 ·split at h
  ·rename_i h1 h2 h3
   simp only[Option.some.injEq]at h
   subst h
   exact cF ⟨(iK h1).trans (bL rfl (by simp only;omega)),(iK h2).trans (bL rfl (by simp only;omega)),(iK h3).trans (bL rfl (by simp only;omega)),trivial⟩
  ·simp at h
 ·simp at h
def dR:Kd (Rat×Nat):=⟨gO,fun a=>rA a.1 a.2,iK⟩
def dV:Kd (V3×Nat):=⟨D9,fun a=>vA a.1 a.2,XY⟩
section specs
variable {α β γ δ:Type} {f:FuncId}
def DD (k:Kd α) (g:α→AV) (B:α→Bool):Spec:=bA fun l=>match l with
 |[x]=>match k.read x with
  |some a=>match B a with
   |true=>some (aF (g a) [])
   |false=>none
  |_=>none
 |_=>none
theorem Ly {k:Kd α} {g:α→AV} {B:α→Bool} (h:∀a K,B a=true→az P f K [k.make a] [] (aF (g a) [])):∀K args pre r,DD k g B K args pre=some r→az P f K args pre r:=by
 refine bS fun K args r hk hs _=>?_
 split at hs
 ·split at hs
  ·rename_i h1
   split at hs
   ·rename_i hB
    simp only[Option.some.injEq]at hs
    subst hs
    exact fP (h _ K hB) hk ⟨k.ok h1,trivial⟩ []
   ·simp at hs
  ·simp at hs
 ·simp at hs
def iS (k:Kd α) (k2:Kd β) (g:α→β→AV) (B:α→β→Bool):Spec:=bA fun l=>match l with
 |[x,y]=>match k.read x,k2.read y with
  |some a,some b=>match B a b with
   |true=>some (aF (g a b) [])
   |false=>none
  |_,_=>none
 |_=>none
theorem jh {k:Kd α} {k2:Kd β} {g:α→β→AV} {B:α→β→Bool} (h:∀a b K,B a b=true→az P f K [k.make a,k2.make b] [] (aF (g a b) [])):∀K args pre r,iS k k2 g B K args pre=some r→az P f K args pre r:=by
 refine bS fun K args r hk hs _=>?_
 split at hs
 ·split at hs
  ·rename_i h1 h2
   split at hs
   ·rename_i hB
    simp only[Option.some.injEq]at hs
    subst hs
    exact fP (h _ _ K hB) hk ⟨k.ok h1,k2.ok h2,trivial⟩ []
   ·simp at hs
  ·simp at hs
 ·simp at hs
end specs
def b1 {α:Type} (e:Nat) (a:α×Nat):Bool:=Nat.blt a.2 (2^e)
def b2 {α β:Type} (e:Nat) (a:α×Nat) (b:β×Nat):Bool:=Nat.blt a.2 (2^e)&&Nat.blt b.2 (2^e)
def b3 {α β γ:Type} (e:Nat) (a:α×Nat) (b:β×Nat) (c:γ×Nat):Bool:=Nat.blt a.2 (2^e)&&(Nat.blt b.2 (2^e)&&Nat.blt c.2 (2^e))
theorem Kc {a b:Nat}:Nat.blt a b=true↔a<b:=by rw[Nat.blt_eq]
theorem afv {α:Type} {e:Nat} {a:α×Nat} (h:b1 e a=true):a.2<2^e:=Kc.1 h
theorem eG {α β:Type} {e:Nat} {a:α×Nat} {b:β×Nat} (h:b2 e a b=true):a.2<2^e∧b.2<2^e:=by
 simp only[b2,Bool.and_eq_true,Kc]at h;exact h
def ot:Spec:=bA fun l=>match l with
 |[.int .i64 n]=>match decide (-2^63≤n∧n<2^63)with
  |true=>some (aF (.rat (n:Rat) (max 1 (bp n.natAbs))) [])
  |false=>none
 |_=>none
abbrev EW:FuncId×Spec:=(ow,ot)
abbrev EF:FuncId×Spec:=(yZ,iS dR dR ago (b2 42))
abbrev Fs:FuncId×Spec:=(zG,iS dR dR P1 (b2 42))
def rK:aS:=[(tJ,iS dR dR iw (b2 42)),(tN,iS dR dR BL (b2 42)),(uu,iS dR dR A8 (b2 42)),(fJ,iS dR dR Aj (b2 42)),(iZ,iS dR dR Af (b2 42)),(oA,DD dR Ap (b1 42)),EW,(rE,iS dR dR xP (b2 42)),EF,Fs]
def lQ:aS:=[(oy,iS dR dR iw (b2 41)),(yu,iS dR dR BL (b2 41)),(sw,iS dR dR A8 (b2 41)),(tr,iS dR dR Aj (b2 41)),(wV,iS dR dR Af (b2 41)),(oL,DD dR Ap (b1 41)),(jE,ot)]
theorem Cb {n:Nat} (h:n<2^42):n<2^44:=Nat.lt_trans h (by omega)
theorem MS {n:Nat} (h:n<2^41):n<2^44:=Nat.lt_trans h (by omega)
theorem xH {f:FuncId} (h:∀{n:Int},-2^63≤n→n<2^63→∀K,az P f K [.int .i64 n] [] (aF (.rat (n:Rat) (max 1 (bp n.natAbs))) [])):∀K args pre r,ot K args pre=some r→az P f K args pre r:=by
 refine bS fun K args r hk hs _=>?_
 split at hs
 ·split at hs
  ·rename_i hc
   simp only[Option.some.injEq]at hs
   subst hs
   have:=of_decide_eq_true hc
   exact h this.1 this.2 K
  ·simp at hs
 ·simp at hs
theorem adi:∀K args pre r,EW.2 K args pre=some r→az P EW.1 K args pre r:=xH EU
theorem adI:∀K args pre r,EF.2 K args pre=some r→az P EF.1 K args pre r:=jh fun _ _ K hn=>P3 (eG hn).1 (eG hn).2 K
theorem acz:∀K args pre r,Fs.2 K args pre=some r→az P Fs.1 K args pre r:=jh fun _ _ K hn=>Zk (eG hn).1 (eG hn).2 K
theorem um:aW P rK:=aD (jh fun _ _ K hn=>Iw (eG hn).1 (eG hn).2 K) (aD (jh fun _ _ K hn=>JJ (eG hn).1 (eG hn).2 K) (aD (jh fun _ _ K hn=>Ni (eG hn).1 (eG hn).2 K)
 (aD (jh fun _ _ K hn=>FM (Cb (eG hn).1) (Cb (eG hn).2) K []) (aD (jh fun _ _ K hn=>Df (eG hn).1 (eG hn).2 K []) (aD (Ly fun _ K hn=>Dy (Cb (afv hn)) K []) (aD adi
 (aD (jh fun _ _ K hn=>Dr (eG hn).1 (eG hn).2 K) (aD adI (aD acz aX)))))))))
theorem nA:aW P lQ:=aD (jh fun _ _ K hn=>E4 (eG hn).1 (eG hn).2 K) (aD (jh fun _ _ K hn=>Fw (eG hn).1 (eG hn).2 K) (aD (jh fun _ _ K hn=>HU (eG hn).1 (eG hn).2 K)
 (aD (jh fun _ _ K hn=>FQ (MS (eG hn).1) (MS (eG hn).2) K []) (aD (jh fun _ _ K hn=>Lk (eG hn).1 (eG hn).2 K) (aD (Ly fun _ K _=>DT K []) (aD (xH Bh) aX))))))
end Go.Am.B

/- ref02: Quo, Over. -/
namespace Go.Am.B
open Go Go.Am.N AV
theorem Ul:aO P yo uV (aq uV):=aP aeb (by kernel_rfl) (by kernel_rfl) (by kernel_rfl)
theorem adr:aO P zN vG (aq vG):=aP VL (by kernel_rfl) (by kernel_rfl) (by kernel_rfl)
theorem abt {q r:Rat} {n m:Nat}:bu T o5 [9] 60 uV (aq uV) ⟨aM 0 [.rat q n,.rat r m],[],0⟩=
  some (aa.af [(0:Nat)<1] (aa.fork ((↑(nl r.num.natAbs):Int)==(0:Int)) (aa.af [(0:Nat)<1] (aa.af [(0:Nat)<1] (aa.leaf aj.ret [agg [AV.bool false,mag 0,mag 0],int IntKind.i64 (3:Int)]))) (aa.af [(0:Nat)<1,(0:Nat)<1,(0:Nat)<1,(0:Nat)<1,nl q.num.natAbs<2^39,nl r.den<2^39,(0:Nat)<1,(0:Nat)<1,nl q.den<2^39,nl r.num.natAbs<2^39,nl (q.num.natAbs*r.den)<2^38,nl (q.den*r.num.natAbs)<2^38,q.den*r.num.natAbs≠0,(0:Nat)<1] (aa.af [(0:Nat)<1] (aa.leaf aj.ret [rat (sQ (decide (q<0)!=decide (r<0)) (q.num.natAbs*r.den) (q.den*r.num.natAbs)) (ck (sQ (decide (q<0)!=decide (r<0)) (q.num.natAbs*r.den) (q.den*r.num.natAbs))),int IntKind.i64 (0:Int)]))))):=by kernel_rfl
theorem JE {q r:Rat} {n m:Nat} (hn:n<2^41) (hm':m<2^41) (K:Nat):az P yo K [.rat q n,.rat r m] [] (aF (.tuple [.rat (q/r) (n+m),.int .i64 (if r=0 then 3 else 0)]) []):=by
 refine gU fun⟨hq,hr,_⟩=>?_
 have hq:Sz q n:=hq
 have hr:Sz r m:=hr
 have d1:=q.den_nz
 have d2:=r.den_nz
 have a1:nl q.num.natAbs<2^38:=er hq.1 (by omega)
 have a2:nl q.den<2^38:=er hq.2 (by omega)
 have b1:nl r.num.natAbs<2^38:=er hr.1 (by omega)
 have b2:nl r.den<2^38:=er hr.2 (by omega)
 have m1:nl (q.num.natAbs*r.den)<2^38:=er (lG hq.1 hr.2) (by omega)
 have m3:nl (q.den*r.num.natAbs)<2^38:=er (lG hq.2 hr.1) (by omega)
 refine bC hT rP hm Ul rfl (of_decide_eq_true (by kernel_rfl)) rfl 60 abt (fun _=>?_) K []
 have key:((nl r.num.natAbs:Int)==(0:Int))=decide (r=0):=by
  by_cases h:r=0
  ·subst h;rfl
  ·have h1:r.num.natAbs≠0:=fun e=>h (kZ.1 e)
   have:=eV.2 h1
   simp only[h,decide_false,beq_eq_false_iff_ne];omega
 rw[key]
 simp only[aa.all,ax,decide_eq_true_eq,decide_eq_false_iff_not]
 refine⟨by omega,fun h0=>?_,fun h0=>?_⟩
 ·refine⟨by omega,by omega,?_,br (by rw[if_pos h0]),trivial⟩
  have e:q/r=0:=by rw[h0,Rat.div_def,Rat.inv_zero,Rat.mul_zero]
  obtain⟨k,hk⟩:∃k,n+m=k+1:=⟨n+m-1,by have:=hq.pos;omega⟩
  rw[e,hk]
  first|exact iE|exact cN (by omega)
 ·have hr0:r.num.natAbs≠0:=fun h=>h0 (kZ.1 h)
  have hv:=Dt q r h0
  (repeat' with_reducible refine And.intro ?_ ?_)
  all_goals first|omega|exact m1|exact m3|exact Nat.mul_ne_zero d1 hr0|skip
  exact⟨fl hv (hq.div hr),br (by rw[if_neg h0]),trivial⟩
def La:aS:=[(yo,gT kR kR xP nU)]
theorem RJ:aW P La:=aD (iA fun _ _ K hn=>JE hn.1 hn.2 K) aX
theorem N8 {q r:Rat} {n m:Nat}:bu T La [] 60 vG (aq vG) ⟨aM 0 [.rat q n,.rat r m],[],0⟩=
  some (aa.af [(0:Nat)<1,(0:Nat)<1,n<2^41,m<2^41,(0:Nat)<1] (aa.af [(0:Nat)<1,(0:Nat)<1] (aa.af [(0:Nat)<1] (aa.leaf aj.ret [rat (q/r) (n+m)])))):=by kernel_rfl
theorem UI {q r:Rat} {n m:Nat} (hn:n<2^41) (hm':m<2^41) (K:Nat):az P zN K [.rat q n,.rat r m] [] (aF (.rat (q/r) (n+m)) []):=by
 refine bC hT RJ hm adr rfl (of_decide_eq_true (by kernel_rfl)) rfl 60 N8 (fun _=>?_) K []
 simp only[aa.all,ax]
 (repeat' with_reducible refine And.intro ?_ ?_)
 all_goals first|omega|exact bz.refl _
def abT (a b:Rat×Nat):AV:=rA (a.1/b.1) (a.2+b.2)
end Go.Am.B
