/- brepkernelmade. -/
import Derived.Test.YtppeigelbecpbaaGreatB33
import Derived.Test.YtppeigelbecpbaaGreatZ2
import Init
set_option linter.unusedVariables false
noncomputable section
namespace Go.Am.B
open Go Go.Am.N AV
@[ext] structure V3 where
 x:Rat
 y:Rat
 z:Rat
structure Pl where
 n:V3
 d:Rat
structure M3 where
 a:V3
 b:V3
 c:V3
structure Mp where
 m:M3
 t:V3
abbrev rA (q:Rat) (n:Nat):AV:=.rat q n
abbrev vA (v:V3) (n:Nat):AV:=.agg [.rat v.x n,.rat v.y n,.rat v.z n]
abbrev bE (p:Pl) (n:Nat):AV:=.agg [vA p.n n,.rat p.d n]
theorem bM {q r:Rat} {n k:Nat} (h:q=r) (hk:n<=k):bG (.rat q n) (.rat r k):=h▸fK hk
theorem Er {u v:V3} {n k:Nat} (h:u=v) (hk:n<=k):bG (vA u n) (vA v k):=
 h▸cC ⟨bM rfl hk,bM rfl hk,bM rfl hk,trivial⟩
structure Kind (α:Type) where
 read:AV->Option (α×List Prop)
 make:α->AV
 ok:∀{v:AV} {a:α} {q:List Prop},read v=some (a,q)->az q->bG v (make a)
def jj:AV->Option (Rat×Nat)
 |.rat q n=>some (q,n)
 |.agg [.bool false,.mag 0,.mag 0]=>some (0,1)
 |_=>none
theorem kE {v:AV} {a:Rat×Nat} (h:jj v=some a):bG v (rA a.1 a.2):=by
 unfold jj at h
 split at h
 ·simp only[ay]at h;subst h;exact .refl _
 ·simp only[ay]at h;subst h;exact lT
 ·simp at h
def K2:AV->Option ((V3×Nat)×List Prop)
 |.agg [x,y,z]=>match jj x,jj y,jj z with
  |some (x,a),some (y,b),some (z,c)=>some ((⟨x,y,z⟩,a),[b<=a,c<=a])
  |_,_,_=>none
 |_=>none
theorem ahW {v:AV} {a:V3×Nat} {q:List Prop} (h:K2 v=some (a,q)) (hq:az q):bG v (vA a.1 a.2):=by
 unfold K2 at h
 split at h
 ·split at h
  ·rename_i h1 h2 h3
   simp only[ay,Prod.mk.injEq]at h
   obtain⟨rfl,rfl⟩:=h
   exact cC ⟨kE h1,(kE h2).trans (bM rfl hq.1),(kE h3).trans (bM rfl hq.2),trivial⟩
  ·simp at h
 ·simp at h
def Ba:AV->Option ((Pl×Nat)×List Prop)
 |.agg [v,d]=>match K2 v,jj d with
  |some ((v,a),q),some (d,b)=>some ((⟨v,d⟩,max a b),q)
  |_,_=>none
 |_=>none
theorem U6 {v:AV} {a:Pl×Nat} {q:List Prop} (h:Ba v=some (a,q)) (hq:az q):bG v (bE a.1 a.2):=by
 unfold Ba at h
 split at h
 ·split at h
  ·rename_i h1 h2
   simp only[ay,Prod.mk.injEq]at h
   obtain⟨rfl,rfl⟩:=h
   exact cC ⟨(ahW h1 hq).trans (Er rfl (by simp only;omega)),(kE h2).trans (bM rfl (by simp only;omega)),trivial⟩
  ·simp at h
 ·simp at h
def IB (v:AV):Option ((Rat×Nat)×List Prop):=match jj v with
 |some a=>some (a,[])
 |none=>none
theorem aar {v:AV} {a:Rat×Nat} {q:List Prop} (h:IB v=some (a,q)) (_:az q):bG v (rA a.1 a.2):=by
 unfold IB at h
 split at h
 ·rename_i h1
  simp only[ay,Prod.mk.injEq]at h
  obtain⟨rfl,rfl⟩:=h
  exact kE h1
 ·simp at h
def KF:AV->Option (Int×List Prop)
 |.int .i64 n=>some (n,[])
 |_=>none
theorem aa3 {v:AV} {a:Int} {q:List Prop} (h:KF v=some (a,q)) (_:az q):bG v (.int .i64 a):=by
 unfold KF at h
 split at h
 ·simp only[ay,Prod.mk.injEq]at h
  obtain⟨rfl,rfl⟩:=h
  exact .refl _
 ·simp at h
def kR:Kind (Rat×Nat):=⟨IB,fun a=>rA a.1 a.2,aar⟩
def kPl:Kind (Pl×Nat):=⟨Ba,fun a=>bE a.1 a.2,U6⟩
def kI:Kind Int:=⟨KF,fun a=>.int .i64 a,aa3⟩
section specs
variable {α β γ δ:Type} {f:FuncId}
def I6 (k:Kind α) (g:α->AV) (need:α->List Prop):Spec:=bX fun l=>match l with
 |[x]=>match k.read x with
  |some (a,p)=>some (aK (g a) (p++need a))
  |none=>none
 |_=>none
theorem Ra {k:Kind α} {g:α->AV} {need:α->List Prop} (h:∀a K,az (need a)->aE P f K [k.make a] [] (aK (g a) [])):∀K args pre r,I6 k g need K args pre=some r->aE P f K args pre r:=by
 refine cK fun K args r hk hs _=>?_
 split at hs
 ·split at hs
  ·rename_i h1
   simp only[ay]at hs
   subst hs
   intro hn
   obtain⟨n1,hn⟩:=eL.1 hn
   exact gD (h _ K hn) hk ⟨k.ok h1 n1,trivial⟩ [] trivial
  ·simp at hs
 ·simp at hs
def ja (k:Kind α) (k2:Kind β) (g:α->β->AV) (need:α->β->List Prop):Spec:=bX fun l=>match l with
 |[x,y]=>match k.read x,k2.read y with
  |some (a,p),some (b,q)=>some (aK (g a b) (p++(q++need a b)))
  |_,_=>none
 |_=>none
theorem jl {k:Kind α} {k2:Kind β} {g:α->β->AV} {need:α->β->List Prop} (h:∀a b K,az (need a b)->aE P f K [k.make a,k2.make b] [] (aK (g a b) [])):∀K args pre r,ja k k2 g need K args pre=some r->aE P f K args pre r:=by
 refine cK fun K args r hk hs _=>?_
 split at hs
 ·split at hs
  ·rename_i h1 h2
   simp only[ay]at hs
   subst hs
   intro hn
   obtain⟨n1,hn⟩:=eL.1 hn
   obtain⟨n2,hn⟩:=eL.1 hn
   exact gD (h _ _ K hn) hk ⟨k.ok h1 n1,k2.ok h2 n2,trivial⟩ [] trivial
  ·simp at hs
 ·simp at hs
end specs
def r7 (a b:Rat×Nat):List Prop:=[a.2<2^42,b.2<2^42]
def oV (a b:Rat×Nat):List Prop:=[a.2<2^41,b.2<2^41]
def ir (a b:Rat×Nat):AV:=rA (a.1+b.1) (a.2+b.2+1)
def BV (a b:Rat×Nat):AV:=rA (a.1-b.1) (a.2+b.2+1)
def Em (a b:Rat×Nat):AV:=rA (a.1*b.1) (a.2+b.2)
def DK (a b:Rat×Nat):AV:=.tuple [rA (a.1/b.1) (a.2+b.2),.int .i64 (if b.1=0 then 3 else 0)]
def akQ (a b:Rat×Nat):AV:=rA (BF a.1 b.1) (max a.2 b.2)
def acM (a b:Rat×Nat):AV:=rA (EK a.1 b.1) (max a.2 b.2)
def Fc (a b:Rat×Nat):AV:=.int .i64 (dM a.1 b.1)
def Dp (a b:Rat×Nat):AV:=.bool (decide (a.1=b.1))
def Ga (a:Rat×Nat):AV:=.int .i64 (eW a.1)
abbrev JF:FuncId×Spec:=(vH,Sr)
def gI:bg:=[(E5,ja kR kR ir r7),(EB,ja kR kR BV r7),(FE,ja kR kR Em r7),(gX,ja kR kR Dp r7),(lz,ja kR kR Fc r7),(vC,I6 kR Ga fun a=>[a.2<2^42]),JF]
def nI:bg:=[(uM,ja kR kR ir oV),(BR,ja kR kR BV oV),(C9,ja kR kR Em oV),(EP,ja kR kR Dp oV),(Gi,ja kR kR Fc oV),(uw,I6 kR Ga fun a=>[a.2<2^41]),(rC,Aw)]
theorem VW:∀K args pre r,JF.2 K args pre=some r->aE P JF.1 K args pre r:=UL
theorem iG:bz P gI:=aL (jl fun _ _ K hn=>Nx hn.1 hn.2 K) (aL (jl fun _ _ K hn=>QW hn.1 hn.2 K) (aL (jl fun _ _ K hn=>Nf hn.1 hn.2 K)
 (aL (jl fun _ _ K hn=>SS (Nat.lt_trans hn.1 aa) (Nat.lt_trans hn.2 aa) K []) (aL (jl fun _ _ K hn=>Gt hn.1 hn.2 K []) (aL (Ra fun _ K hn=>IM (Nat.lt_trans hn aa) K []) (aL VW bO))))))
theorem pI:bz P nI:=aL (jl fun _ _ K hn=>K3 hn.1 hn.2 K) (aL (jl fun _ _ K hn=>Qg hn.1 hn.2 K) (aL (jl fun _ _ K hn=>PZ hn.1 hn.2 K)
 (aL (jl fun _ _ K hn=>Qp (Nat.lt_trans hn.1 aa) (Nat.lt_trans hn.2 aa) K []) (aL (jl fun _ _ K hn=>Om hn.1 hn.2 K) (aL (Ra fun _ K _=>Hp K []) (aL Cw bO))))))
end Go.Am.B
namespace Go.Am.B
open Go Go.Am.N AV
structure Kd (α:Type) where
 read:AV->Option α
 make:α->AV
 ok:∀{v:AV} {a:α},read v=some a->bG v (make a)
def Kt:AV->Option (V3×Nat)
 |.agg [x,y,z]=>match jj x,jj y,jj z with
  |some (x,a),some (y,b),some (z,c)=>some (⟨x,y,z⟩,max a (max b c))
  |_,_,_=>none
 |_=>none
theorem ZS {v:AV} {a:V3×Nat} (h:Kt v=some a):bG v (vA a.1 a.2):=by
 unfold Kt at h
 split at h
 ·split at h
  ·rename_i h1 h2 h3
   simp only[ay]at h
   subst h
   exact cC ⟨(kE h1).trans (bM rfl (by simp only;omega)),(kE h2).trans (bM rfl (by simp only;omega)),(kE h3).trans (bM rfl (by simp only;omega)),trivial⟩
  ·simp at h
 ·simp at h
def dR:Kd (Rat×Nat):=⟨jj,fun a=>rA a.1 a.2,kE⟩
def dV:Kd (V3×Nat):=⟨Kt,fun a=>vA a.1 a.2,ZS⟩
section specs
variable {α β γ δ:Type} {f:FuncId}
def IN (k:Kd α) (g:α->AV) (B:α->Bool):Spec:=bX fun l=>match l with
 |[x]=>match k.read x with
  |some a=>match B a with
   |true=>some (aK (g a) [])
   |false=>none
  |_=>none
 |_=>none
theorem NG {k:Kd α} {g:α->AV} {B:α->Bool} (h:∀a K,B a=true->aE P f K [k.make a] [] (aK (g a) [])):∀K args pre r,IN k g B K args pre=some r->aE P f K args pre r:=by
 refine cK fun K args r hk hs _=>?_
 split at hs
 ·split at hs
  ·rename_i h1
   split at hs
   ·rename_i hB
    simp only[ay]at hs
    subst hs
    exact gD (h _ K hB) hk ⟨k.ok h1,trivial⟩ []
   ·simp at hs
  ·simp at hs
 ·simp at hs
def kg (k:Kd α) (k2:Kd β) (g:α->β->AV) (B:α->β->Bool):Spec:=bX fun l=>match l with
 |[x,y]=>match k.read x,k2.read y with
  |some a,some b=>match B a b with
   |true=>some (aK (g a b) [])
   |false=>none
  |_,_=>none
 |_=>none
theorem kS {k:Kd α} {k2:Kd β} {g:α->β->AV} {B:α->β->Bool} (h:∀a b K,B a b=true->aE P f K [k.make a,k2.make b] [] (aK (g a b) [])):∀K args pre r,kg k k2 g B K args pre=some r->aE P f K args pre r:=by
 refine cK fun K args r hk hs _=>?_
 split at hs
 ·split at hs
  ·rename_i h1 h2
   split at hs
   ·rename_i hB
    simp only[ay]at hs
    subst hs
    exact gD (h _ _ K hB) hk ⟨k.ok h1,k2.ok h2,trivial⟩ []
   ·simp at hs
  ·simp at hs
 ·simp at hs
end specs
def b1 {α:Type} (e:Nat) (a:α×Nat):Bool:=Nat.blt a.2 (2^e)
def b2 {α β:Type} (e:Nat) (a:α×Nat) (b:β×Nat):Bool:=Nat.blt a.2 (2^e)&&Nat.blt b.2 (2^e)
def b3 {α β γ:Type} (e:Nat) (a:α×Nat) (b:β×Nat) (c:γ×Nat):Bool:=Nat.blt a.2 (2^e)&&(Nat.blt b.2 (2^e)&&Nat.blt c.2 (2^e))
theorem Qe {a b:Nat}:Nat.blt a b=true↔a<b:=by rw[Nat.blt_eq]
theorem adw {α:Type} {e:Nat} {a:α×Nat} (h:b1 e a=true):a.2<2^e:=Qe.1 h
theorem fU {α β:Type} {e:Nat} {a:α×Nat} {b:β×Nat} (h:b2 e a b=true):a.2<2^e/\b.2<2^e:=by
 simp only[b2,Bool.and_eq_true,Qe]at h;exact h
def Ff:Spec:=bX fun l=>match l with
 |[.int .i64 n]=>match decide (-2^63<=n/\n<2^63)with
  |true=>some (aK (.rat (n:Rat) (max 1 (bN n.natAbs))) [])
  |false=>none
 |_=>none
abbrev J6:FuncId×Spec:=(vH,Ff)
abbrev G4:FuncId×Spec:=(KA,kg dR dR akQ (b2 42))
abbrev KL:FuncId×Spec:=(Gz,kg dR dR acM (b2 42))
def Kl:bg:=[(E5,kg dR dR ir (b2 42)),(EB,kg dR dR BV (b2 42)),(FE,kg dR dR Em (b2 42)),(gX,kg dR dR Dp (b2 42)),(lz,kg dR dR Fc (b2 42)),(vC,IN dR Ga (b1 42)),J6,(Au,kg dR dR DK (b2 42)),G4,KL]
def qk:bg:=[(uM,kg dR dR ir (b2 41)),(BR,kg dR dR BV (b2 41)),(C9,kg dR dR Em (b2 41)),(EP,kg dR dR Dp (b2 41)),(Gi,kg dR dR Fc (b2 41)),(uw,IN dR Ga (b1 41)),(rC,Ff)]
theorem IE {n:Nat} (h:n<2^42):n<2^44:=Nat.lt_trans h aa
theorem ML {n:Nat} (h:n<2^41):n<2^44:=Nat.lt_trans h aa
theorem Hx {f:FuncId} (h:∀{n:Int},-2^63<=n->n<2^63->∀K,aE P f K [.int .i64 n] [] (aK (.rat (n:Rat) (max 1 (bN n.natAbs))) [])):∀K args pre r,Ff K args pre=some r->aE P f K args pre r:=by
 refine cK fun K args r hk hs _=>?_
 split at hs
 ·split at hs
  ·rename_i hc
   simp only[ay]at hs
   subst hs
   have:=of_decide_eq_true hc
   exact h this.1 this.2 K
  ·simp at hs
 ·simp at hs
theorem ah0:∀K args pre r,J6.2 K args pre=some r->aE P J6.1 K args pre r:=Hx IU
theorem ajt:∀K args pre r,G4.2 K args pre=some r->aE P G4.1 K args pre r:=kS fun _ _ K hn=>adj (fU hn).1 (fU hn).2 K
theorem aiC:∀K args pre r,KL.2 K args pre=some r->aE P KL.1 K args pre r:=kS fun _ _ K hn=>aj9 (fU hn).1 (fU hn).2 K
theorem LA:bz P Kl:=aL (kS fun _ _ K hn=>Nx (fU hn).1 (fU hn).2 K) (aL (kS fun _ _ K hn=>QW (fU hn).1 (fU hn).2 K) (aL (kS fun _ _ K hn=>Nf (fU hn).1 (fU hn).2 K)
 (aL (kS fun _ _ K hn=>SS (IE (fU hn).1) (IE (fU hn).2) K []) (aL (kS fun _ _ K hn=>Gt (fU hn).1 (fU hn).2 K []) (aL (NG fun _ K hn=>IM (IE (adw hn)) K []) (aL ah0
 (aL (kS fun _ _ K hn=>Ib (fU hn).1 (fU hn).2 K) (aL ajt (aL aiC bO)))))))))
theorem sA:bz P qk:=aL (kS fun _ _ K hn=>K3 (fU hn).1 (fU hn).2 K) (aL (kS fun _ _ K hn=>Qg (fU hn).1 (fU hn).2 K) (aL (kS fun _ _ K hn=>PZ (fU hn).1 (fU hn).2 K)
 (aL (kS fun _ _ K hn=>Qp (ML (fU hn).1) (ML (fU hn).2) K []) (aL (kS fun _ _ K hn=>Om (fU hn).1 (fU hn).2 K) (aL (NG fun _ K _=>Hp K []) (aL (Hx OZ) bO))))))
end Go.Am.B
namespace Go.Am.B
open Go Go.Am.N AV
theorem aae:aT P IZ DW (aA DW):=aY Proofs.Tryz.func197 ag ag ag
theorem Vv:aT P yE CE (aA CE):=aY Proofs.Tryz.func125 ag ag ag
theorem af7 {q r:Rat} {n m:Nat}:bW T tR [9] 60 DW (aA DW) ⟨aQ 0 [.rat q n,.rat r m],[],0⟩=
  some (ah.aj [(0:Nat)<1] (ah.fork ((↑(nl r.num.natAbs):Int)==(0:Int)) (ah.aj [(0:Nat)<1] (ah.aj [(0:Nat)<1] (ah.leaf au.ret [agg [AV.bool false,mag 0,mag 0],int IntKind.i64 (3:Int)]))) (ah.aj [(0:Nat)<1,(0:Nat)<1,(0:Nat)<1,(0:Nat)<1,nl q.num.natAbs<2^39,nl r.den<2^39,(0:Nat)<1,(0:Nat)<1,nl q.den<2^39,nl r.num.natAbs<2^39,nl (q.num.natAbs*r.den)<2^38,nl (q.den*r.num.natAbs)<2^38,q.den*r.num.natAbs≠0,(0:Nat)<1] (ah.aj [(0:Nat)<1] (ah.leaf au.ret [rat (sQ (decide (q<0)!=decide (r<0)) (q.num.natAbs*r.den) (q.den*r.num.natAbs)) (cS (sQ (decide (q<0)!=decide (r<0)) (q.num.natAbs*r.den) (q.den*r.num.natAbs))),int IntKind.i64 (0:Int)]))))):=ag
theorem afF {q r:Rat} {n m:Nat} (hn:n<2^41) (hm':m<2^41) (K:Nat):aE P IZ K [.rat q n,.rat r m] [] (aK (.tuple [.rat (q/r) (n+m),.int .i64 (if r=0 then 3 else 0)]) []):=by
 refine jn fun⟨hq,hr,_⟩=>?_
 have hq:Sz q n:=hq
 have hr:Sz r m:=hr
 have d1:=q.den_nz
 have d2:=r.den_nz
 have a1:nl q.num.natAbs<2^38:=fJ hq.1 aa
 have a2:nl q.den<2^38:=fJ hq.2 aa
 have b1:nl r.num.natAbs<2^38:=fJ hr.1 aa
 have b2:nl r.den<2^38:=fJ hr.2 aa
 have m1:nl (q.num.natAbs*r.den)<2^38:=fJ (oO hq.1 hr.2) aa
 have m3:nl (q.den*r.num.natAbs)<2^38:=fJ (oO hq.2 hr.1) aa
 refine cj hT wA hm aae rfl aX rfl 60 af7 (fun _=>?_) K []
 have key:((nl r.num.natAbs:Int)==(0:Int))=decide (r=0):=by
  by_cases h:r=0
  ·subst h;rfl
  ·have h1:r.num.natAbs≠0:=fun e=>h (nu.1 e)
   have:=gn.2 h1
   simp only[h,decide_false,beq_eq_false_iff_ne];omega
 rw[key]
 simp only[ah.all,az,aZ,bk]
 refine⟨aa,fun h0=>?_,fun h0=>?_⟩
 ·refine⟨aa,aa,?_,bQ (by rw[if_pos h0]),trivial⟩
  have e:q/r=0:=by rw[h0,Rat.div_def,Rat.inv_zero,Rat.mul_zero]
  obtain⟨k,hk⟩:∃k,n+m=k+1:=⟨n+m-1,by have:=hq.pos;omega⟩
  rw[e,hk]
  first|exact lT|exact fK aa
 ·have hr0:r.num.natAbs≠0:=fun h=>h0 (nu.1 h)
  have hv:=H9 q r h0
  (repeat' with_reducible refine And.intro ?_ ?_)
  all_goals first|omega|exact m1|exact m3|exact Nat.mul_ne_zero d1 hr0|skip
  exact⟨dA hv (hq.div hr),bQ (by rw[if_neg h0]),trivial⟩
def SD:bg:=[(IZ,ja kR kR DK oV)]
theorem adP:bz P SD:=aL (jl fun _ _ K hn=>afF hn.1 hn.2 K) bO
theorem ZI {q r:Rat} {n m:Nat}:bW T SD [] 60 CE (aA CE) ⟨aQ 0 [.rat q n,.rat r m],[],0⟩=
  some (ah.aj [(0:Nat)<1,(0:Nat)<1,n<2^41,m<2^41,(0:Nat)<1] (ah.aj [(0:Nat)<1,(0:Nat)<1] (ah.aj [(0:Nat)<1] (ah.leaf au.ret [rat (q/r) (n+m)])))):=ag
theorem Hh {q r:Rat} {n m:Nat} (hn:n<2^41) (hm':m<2^41) (K:Nat):aE P yE K [.rat q n,.rat r m] [] (aK (.rat (q/r) (n+m)) []):=by
 refine cj hT adP hm Vv rfl aX rfl 60 ZI (fun _=>?_) K []
 simp only[ah.all,az]
 (repeat' with_reducible refine And.intro ?_ ?_)
 all_goals first|omega|exact bG.refl _
def JB (a b:Rat×Nat):AV:=rA (a.1/b.1) (a.2+b.2)
def pq (n:Nat) (f:Nat->Rat):Rat:=match n with
 |0=>0
 |n+1=>pq n f+f n
structure Kn (n p:Nat) (k:Nat->Rat):Prop where
 p1:1<=p
 len:2*p+2<=n
 sorted:∀i,i+1<n->k i<=k (i+1)
 first:∀i,i<=p->k i=k 0
 last:∀i,n<=i+p+1->i<n->k i=k (n-1)
 mult:∀i,1<=i->i+p+1<n->k i<k (i+p)
theorem gk {n:Nat} {k:Nat->Rat} (h:∀i,i+1<n->k i<=k (i+1)) {i:Nat}:∀{j:Nat},i<=j->j<n->k i<=k j
 |0,hij,_=>by
    have:i=0:=by omega
    subst this;exact Rat.le_refl
 |j+1,hij,hj=>by
  by_cases he:i=j+1
  ·subst he;exact Rat.le_refl
  ·exact Rat.le_trans (gk h (j:=j) (by omega) (by omega)) (h j hj)
theorem Kn.mono {n p:Nat} {k:Nat->Rat} (h:Kn n p k) {i j:Nat} (hij:i<=j) (hj:j<n):k i<=k j:=gk h.sorted hij hj
def fr (a b t:Rat):Rat:=(t-a)/(b-a)
theorem nY {a b t:Rat} (h:a<b):fr a b t*(b-a)=t-a:=by
 unfold fr;rw[Rat.div_mul_cancel];intro e;grind
theorem Ox {a b:Rat}:fr a b a=0:=by
 unfold fr;rw[Rat.sub_self,Rat.div_def,Rat.zero_mul]
theorem adq {a b:Rat} (h:a<b):fr a b b=1:=by
 unfold fr;rw[Rat.div_def,Rat.mul_inv_cancel];intro e;grind
theorem YE {a b t:Rat} (h:a<b) (h0:a<=t):0<=fr a b t:=by
 have e:=nY (t:=t) h
 rcases Rat.le_total (a:=0) (b:=fr a b t)with h1|h1
 ·exact h1
 ·by_cases h2:fr a b t=0
  ·rw[h2];exact Rat.le_refl
  ·have:=Rat.mul_pos (a:=-fr a b t) (b:=b-a) (by grind) (by grind)
   grind
theorem XU {a b t:Rat} (h:a<b) (h0:t<=b):fr a b t<=1:=by
 have e:=nY (t:=t) h
 rcases Rat.le_total (a:=fr a b t) (b:=1)with h1|h1
 ·exact h1
 ·by_cases h2:fr a b t=1
  ·rw[h2];exact Rat.le_refl
  ·have:=Rat.mul_pos (a:=fr a b t-1) (b:=b-a) (by grind) (by grind)
   grind
def vB (k:Nat->Rat) (i:Nat) (t:Rat):Nat->Nat->Rat
 |0,j=>if j=0 then 1 else 0
 |d+1,j=>(if j=0 then 0 else fr (k (i-d+(j-1))) (k (i-d+(j-1)+(d+1))) t*vB k i t d (j-1))+
   (if j<=d then(1-fr (k (i-d+j)) (k (i-d+j+(d+1))) t)*vB k i t d j else 0)
structure At (n:Nat) (k:Nat->Rat) (i:Nat):Prop where
 lt:i+1<n
 sorted:∀i,i+1<n->k i<=k (i+1)
 wide:k i<k (i+1)
theorem At.around {n:Nat} {k:Nat->Rat} {i:Nat} (h:At n k i) {a b:Nat} (ha:a<=i) (hb:i<b) (hn:b<n):k a<k b:=by
 have h1:=gk h.sorted ha (show i<n by have:=h.lt;omega)
 have h2:=gk h.sorted (show i+1<=b by omega) hn
 have h3:=h.wide
 grind
def gz (k:Nat->Rat) (b p r:Nat) (t:Rat) (x:Nat->Rat) (j:Nat):Rat:=
 if r<j then x (j-1)+fr (k (b+j)) (k (b+j+(p-r))) t*(x j-x (j-1))else x j
def bl (k:Nat->Rat) (b p:Nat):Nat->(Nat->Rat)->List Rat->Nat->Rat
 |_,x,[]=>x
 |r,x,t::l=>bl k b p (r+1) (gz k b p r t x) l
def b9 (t:Nat->Rat):Nat->Nat->List Rat
 |_,0=>[]
 |a,l+1=>t a::b9 t (a+1) l
def bR (k:Nat->Rat) (b p:Nat) (t:Nat->Rat) (x:Nat->Rat):Nat->Nat->Rat
 |0=>x
 |r+1=>gz k b p r (t r) (bR k b p t x r)
variable {k:Nat->Rat} {b p:Nat}
theorem Oo {t x:Nat->Rat}:∀{l r:Nat},bl k b p r (bR k b p t x r) (b9 t r l)=bR k b p t x (r+l)
 |0,r=>rfl
 |l+1,r=>by
  have:=Oo (t:=t) (x:=x) (l:=l) (r:=r+1)
  rw[show r+(l+1)=r+1+l by omega,<-this];rfl
theorem Rb {t x:Nat->Rat} {l:Nat}:bR k b p t x l=bl k b p 0 x (b9 t 0 l):=by
 have:=Oo (k:=k) (b:=b) (p:=p) (t:=t) (x:=x) (l:=l) (r:=0)
 rw[Nat.zero_add]at this
 exact this.symm
theorem JT:∀{l:List Rat} {r:Nat} {x y:Nat->Rat},r+l.length=p->(∀j,r<=j->j<=p->x j=y j)->bl k b p r x l p=bl k b p r y l p
 |[],r,x,y,hl,h=>h p (by simp at hl;omega) (Nat.le_refl _)
 |t::l,r,x,y,hl,h=>by
  refine JT (l:=l) (r:=r+1) (by simp at hl;omega) fun j h1 h2=>?_
  unfold gz
  rw[if_pos (by omega),if_pos (by omega),h j (by omega) h2,h (j-1) (by omega) (by omega)]
theorem Tb {x y u v:Rat} (hu:u≠0) (hv:v≠0) (h:x*(u*v)=y*(u*v)):x=y:=by
 have:(x-y)*(u*v)=0:=by grind
 simp only[Rat.mul_eq_zero]at this
 rcases this with h1|h1|h1
 ·grind
 ·exact absurd h1 hu
 ·exact absurd h1 hv
theorem adW {a1 a2 b1 b2 s t x0 x1 x2:Rat} (h1:a1<b1) (h2:a2<b1) (h3:a2<b2):
  x0+fr a1 b1 s*(x1-x0)+fr a2 b1 t*(x1+fr a2 b2 s*(x2-x1)-(x0+fr a1 b1 s*(x1-x0)))=
   x0+fr a1 b1 t*(x1-x0)+fr a2 b1 s*(x1+fr a2 b2 t*(x2-x1)-(x0+fr a1 b1 t*(x1-x0))):=by
 have n1:b1-a1≠0:=by intro e;grind
 have n2:b1-a2≠0:=by intro e;grind
 have n3:b2-a2≠0:=by intro e;grind
 have e1:=nY (t:=s) h1
 have e2:=nY (t:=t) h1
 have e3:=nY (t:=s) h2
 have e4:=nY (t:=t) h2
 have e5:=nY (t:=s) h3
 have e6:=nY (t:=t) h3
 generalize fr a1 b1 s=f1s at*
 generalize fr a1 b1 t=f1t at*
 generalize fr a2 b1 s=gs at*
 generalize fr a2 b1 t=gt at*
 generalize fr a2 b2 s=f2s at*
 generalize fr a2 b2 t=f2t at*
 have c0:(1-gt)*(1-f1s)=(1-gs)*(1-f1t):=by
  refine Tb n2 n1 ?_
  have q1:(1-gt)*(b1-a2)=b1-t:=by grind
  have q2:(1-f1s)*(b1-a1)=b1-s:=by grind
  have q3:(1-gs)*(b1-a2)=b1-s:=by grind
  have q4:(1-f1t)*(b1-a1)=b1-t:=by grind
  have l1:(1-gt)*(1-f1s)*((b1-a2)*(b1-a1))=((1-gt)*(b1-a2))*((1-f1s)*(b1-a1)):=by grind
  have l2:(1-gs)*(1-f1t)*((b1-a2)*(b1-a1))=((1-gs)*(b1-a2))*((1-f1t)*(b1-a1)):=by grind
  rw[l1,l2,q1,q2,q3,q4];grind
 have c2:gt*f2s=gs*f2t:=by
  refine Tb n2 n3 ?_
  have l1:gt*f2s*((b1-a2)*(b2-a2))=(gt*(b1-a2))*(f2s*(b2-a2)):=by grind
  have l2:gs*f2t*((b1-a2)*(b2-a2))=(gs*(b1-a2))*(f2t*(b2-a2)):=by grind
  rw[l1,l2,e3,e4,e5,e6];grind
 have f1:x0+f1s*(x1-x0)+gt*(x1+f2s*(x2-x1)-(x0+f1s*(x1-x0)))=((1-gt)*(1-f1s))*x0+(1-(1-gt)*(1-f1s)-gt*f2s)*x1+(gt*f2s)*x2:=by grind
 have f2:x0+f1t*(x1-x0)+gs*(x1+f2t*(x2-x1)-(x0+f1t*(x1-x0)))=((1-gs)*(1-f1t))*x0+(1-(1-gs)*(1-f1t)-gs*f2t)*x1+(gs*f2t)*x2:=by grind
 rw[f1,f2,c0,c2]
variable {n:Nat}
theorem agR (h:At n k (b+p)) (hn:b+p+p<n) {s t:Rat} {x:Nat->Rat} {r j:Nat} (h1:r+2<=j) (h2:j<=p):
  gz k b p (r+1) t (gz k b p r s x) j=gz k b p (r+1) s (gz k b p r t x) j:=by
 have a1:=h.around (a:=b+(j-1)) (b:=b+(j-1)+(p-r)) (by omega) (by omega) (by omega)
 have a2:=h.around (a:=b+j) (b:=b+j+(p-(r+1))) (by omega) (by omega) (by omega)
 have a3:=h.around (a:=b+j) (b:=b+j+(p-r)) (by omega) (by omega) (by omega)
 have e:b+j+(p-(r+1))=b+(j-1)+(p-r):=by omega
 rw[e]at a2
 simp only[gz]
 rw[if_pos (by omega),if_pos (by omega),if_pos (by omega),if_pos (by omega),if_pos (by omega),if_pos (by omega),e]
 exact adW a1 a2 a3
theorem BU (h:At n k (b+p)) (hn:b+p+p<n) {l m:List Rat} (hp:l.Perm m):∀{r:Nat} {x:Nat->Rat},r+l.length=p->bl k b p r x l p=bl k b p r x m p:=by
 induction hp with
 |nil=>intro r x _;rfl
 |cons t _ ih=>intro r x hl;exact ih (by simp at hl;omega)
 |swap s t l=>
  intro r x hl
  refine JT (l:=l) (r:=r+2) (by simp at hl;omega) fun j h1 h2=>?_
  exact agR h hn h1 h2
 |trans h1 h2 ih1 ih2=>intro r x hl;rw[ih1 hl,ih2 (by rw[<-h1.length_eq];exact hl)]
def pU (t:Nat->Rat) (a:Nat):Nat->List Rat
 |0=>[]
 |l+1=>t (a+l)::pU t a l
theorem Fg {t:Nat->Rat}:∀{l a:Nat},b9 t a (l+1)=b9 t a l++[t (a+l)]
 |0,a=>rfl
 |l+1,a=>by
  rw[b9,Fg (l:=l) (a:=a+1),b9,List.cons_append,show a+1+l=a+(l+1) by omega]
theorem JS {t:Nat->Rat} {a:Nat}:∀{l:Nat},(pU t a l).Perm (b9 t a l)
 |0=>.nil
 |l+1=>by
  rw[Fg,pU]
  exact((JS (l:=l)).cons _).trans (List.perm_append_singleton _ _).symm
theorem Ch {t:Nat->Rat} {m:Nat}:∀{l a:Nat},b9 t a (l+m)=b9 t a l++b9 t (a+l) m
 |0,a=>by rw[Nat.zero_add];rfl
 |l+1,a=>by
  rw[show l+1+m=(l+m)+1 by omega,b9,Ch (l:=l) (a:=a+1),b9,List.cons_append,show a+1+l=a+(l+1) by omega]
theorem kZ {t:Nat->Rat}:∀{l a:Nat},(b9 t a l).length=l
 |0,_=>rfl
 |l+1,a=>by rw[b9,List.length_cons,kZ]
theorem aed {l m:List Rat}:∀{r:Nat} {x:Nat->Rat},bl k b p r x (l++m)=bl k b p (r+l.length) (bl k b p r x l) m:=by
 induction l with
 |nil=>intro r x;rfl
 |cons t l ih=>
  intro r x
  rw[List.cons_append,bl,ih,bl,List.length_cons,show r+1+l.length=r+(l.length+1) by omega]
theorem L4 (h:At n k (b+p)) (hn:b+p+p<n) {J:Nat} (hJ:J<=p):∀{l r:Nat} {x:Nat->Rat},r+l=J->bl k b p r x (pU k (b+p+1) l) J=x J
 |0,r,x,_=>rfl
 |l+1,r,x,hr=>by
  rw[pU,bl,L4 h hn hJ (l:=l) (r:=r+1) (by omega)]
  unfold gz
  have a1:=h.around (a:=b+J) (b:=b+J+(p-r)) (by omega) (by omega) (by omega)
  rw[if_pos (by omega),show b+p+1+l=b+J+(p-r) by omega,adq a1];grind
theorem Sj {J:Nat}:∀{l q:Nat} {x:Nat->Rat},bl k b p (J+q) x (b9 k (b+J+1+q) l) (J+q+l)=x (J+q)
 |0,q,x=>rfl
 |l+1,q,x=>by
  have ih:=Sj (J:=J) (l:=l) (q:=q+1) (x:=gz k b p (J+q) (k (b+J+1+q)) x)
  rw[b9,bl,show J+q+(l+1)=J+(q+1)+l by omega,show J+q+1=J+(q+1) by omega,show b+J+1+q+1=b+J+1+(q+1) by omega,ih]
  unfold gz
  rw[if_pos (by omega),show b+J+1+q=b+(J+(q+1)) by omega,Ox,show J+(q+1)-1=J+q by omega];grind
theorem YX (h:At n k (b+p)) (hn:b+p+p<n) {J:Nat} (hJ:J<=p) {x:Nat->Rat}:bl k b p 0 x (b9 k (b+J+1) p) p=x J:=by
 have e:b9 k (b+J+1) p=b9 k (b+J+1) (p-J)++b9 k (b+p+1) J:=by
  have:=Ch (t:=k) (l:=p-J) (a:=b+J+1) (m:=J)
  rw[show p-J+J=p by omega,show b+J+1+(p-J)=b+p+1 by omega]at this
  exact this
 have hp:(b9 k (b+J+1) p).Perm (pU k (b+p+1) J++b9 k (b+J+1) (p-J)):=by
  rw[e]
  exact(List.perm_append_comm).trans ((JS).symm.append_right _)
 rw[BU h hn hp (by rw[kZ];omega),aed]
 have hd:(pU k (b+p+1) J).length=J:=by rw[(JS).length_eq,kZ]
 rw[hd,Nat.zero_add]
 have:=Sj (k:=k) (b:=b) (p:=p) (J:=J) (l:=p-J) (q:=0) (x:=bl k b p 0 x (pU k (b+p+1) J))
 simp only[Nat.add_zero]at this
 rw[show J+(p-J)=p by omega]at this
 rw[this]
 exact L4 h hn hJ (l:=J) (r:=0) (by omega)
end Go.Am.B
namespace Go.Am.B
def lQ (g:Nat->Bool):Nat->Nat
 |0=>0
 |m+1=>if g m then m else lQ g m
theorem Ql {g:Nat->Bool} {i:Nat} (hi:g i=true):∀{m:Nat},i<m->(∀j,i<j->j<m->g j=false)->lQ g m=i
 |0,h,_=>by omega
 |m+1,h,hn=>by
  unfold lQ
  by_cases he:i=m
  ·subst he;rw[if_pos hi]
  ·rw[if_neg (by rw[hn m (by omega) (by omega)];decide),Ql hi (m:=m) (by omega) fun j h1 h2=>hn j h1 (by omega)]
def bT (n:Nat) (k:Nat->Rat) (t:Rat):Nat:=lQ (fun i=>decide (k i<k (i+1))&&decide (k i<=t)) (n-1)
structure Lx (n:Nat) (k:Nat->Rat) (t:Rat) (i:Nat):Prop where
 at_:At n k i
 lo:k i<=t
 hi:t<=k (i+1)
 Ld:t<k (i+1)\/k (i+1)=k (n-1)
theorem su {n:Nat} {k:Nat->Rat} {t:Rat} {i:Nat} (h:Lx n k t i):bT n k t=i:=by
 have hw:=h.at_.wide
 have hlo:=h.lo
 refine Ql (by simp[hw,hlo]) (by have:=h.at_.lt;omega) fun j h1 h2=>?_
 rcases h.Ld with h3|h3
 ·have:=gk h.at_.sorted (show i+1<=j by omega) (show j<n by omega)
  have:¬k j<=t:=by grind
  simp[this]
 ·have a1:=gk h.at_.sorted (show i+1<=j by omega) (show j<n by omega)
  have a2:=gk h.at_.sorted (show j+1<=n-1 by omega) (show n-1<n by omega)
  have:¬k j<k (j+1):=by grind
  simp[this]
theorem Ny {g:Nat->Bool}:∀{m:Nat},(∃i,i<m/\g i=true)->g (lQ g m)=true/\lQ g m<m/\∀j,lQ g m<j->j<m->g j=false
 |0,⟨i,h,_⟩=>by omega
 |m+1,⟨i,h,hi⟩=>by
  unfold lQ
  by_cases hm:g m=true
  ·rw[if_pos hm];exact⟨hm,by omega,fun j h1 h2=>by omega⟩
  ·rw[if_neg hm]
   have hi':i<m:=by
    by_cases he:i=m
    ·subst he;exact absurd hi hm
    ·omega
   obtain⟨a1,a2,a3⟩:=Ny (g:=g) (m:=m) ⟨i,hi',hi⟩
   refine⟨a1,by omega,fun j h1 h2=>?_⟩
   by_cases he:j=m
   ·subst he;simpa using hm
   ·exact a3 j h1 (by omega)
theorem Kn.En {n p:Nat} {k:Nat->Rat} (h:Kn n p k) {t:Rat} (h0:k 0<=t) (h1:t<=k (n-1)):Lx n k t (bT n k t)/\p<=bT n k t/\bT n k t+p+1<n:=by
 have hp:=h.p1
 have hl:=h.len
 have hw:k p<k (p+1):=by
  have:=h.mult 1 (by omega) (by omega)
  rw[h.first 1 (by omega),show 1+p=p+1 by omega]at this
  rw[h.first p (by omega)];exact this
 obtain⟨a1,a2,a3⟩:=Ny (g:=fun i=>decide (k i<k (i+1))&&decide (k i<=t)) (m:=n-1) ⟨p,by omega,by rw[h.first p (by omega)]at*;simp[hw,h0]⟩
 have e:bT n k t=lQ (fun i=>decide (k i<k (i+1))&&decide (k i<=t)) (n-1):=rfl
 rw[<-e]at a1 a2 a3
 generalize bT n k t=i at*
 simp only[Bool.and_eq_true,decide_eq_true_eq]at a1
 have hat:At n k i:=⟨by omega,h.sorted,a1.1⟩
 -- from the next knot on
 have key:t<k (i+1)\/k (i+1)=k (n-1):=by
  by_cases ht:t<k (i+1)
  ·exact .inl ht
  ·refine .inr ?_
   have step:∀j,i+1<=j->j<=n-1->k j=k (i+1):=by
    intro j hj1 hj2
    induction j with
    |zero=>omega
    |succ j ih=>
     by_cases hji:j+1=i+1
     ·rw[hji]
     ·have e1:=ih (by omega) (by omega)
      have:=a3 j (by omega) (by omega)
      have hs:=h.sorted j (by omega)
      by_cases hlt:k j<k (j+1)
      ·simp[hlt]at this
       grind
      ·grind
   exact(step (n-1) (by omega) (by omega)).symm
 have hi2:t<=k (i+1):=by rcases key with h2|h2<;>grind
 refine⟨⟨hat,a1.2,hi2,key⟩,?_,?_⟩
 ·by_cases hge:p<=i
  ·exact hge
  ·exfalso
   have:=h.first i (by omega)
   have:=h.first (i+1) (by omega)
   have:=a1.1
   grind
 ·by_cases hge:i+p+1<n
  ·exact hge
  ·exfalso
   have:=h.last i (by omega) (by omega)
   have:=h.last (i+1) (by omega) (by omega)
   have:=a1.1
   grind
structure KG (p j:Nat) (k:Nat->Rat) (t:Rat):Prop where
 p1:1<=p
 first:∀i,i<=p->k i=k 0
 top:k (p+j)=t
 sorted:∀i,i<p+j->k i<=k (i+1)
 mult:∀i,1<=i->i<=j->k i<k (i+p)
 half:∀i,i<=p+j->∃z:Int,k i=(z:Rat)/2/\-4<=z/\z<=2+6*(j:Int)
def jm (k:Nat->Rat) (m:Nat) (t:Rat):Nat->Rat:=fun i=>if i=m then t else k i
theorem pz {k:Nat->Rat} {m:Nat} {t:Rat}:jm k m t m=t:=if_pos rfl
theorem js {k:Nat->Rat} {m i:Nat} {t:Rat} (h:i≠m):jm k m t i=k i:=if_neg h
theorem KG.start {p:Nat} (hp:1<=p) {z:Int} (h1:-2<=z) (h2:z<=1):KG p 0 (fun _=>(z:Rat)) (z:Rat) where
 p1:=hp
 first:=fun _ _=>rfl
 top:=rfl
 sorted:=fun _ _=>Rat.le_refl
 mult:=fun i h1 h2=>by omega
 half:=fun i _=>⟨2*z,by
  have:((2*z:Int):Rat)=2*(z:Rat):=by simp
  rw[this];grind,by omega,by omega⟩
theorem KG.le_top {p j:Nat} {k:Nat->Rat} {t:Rat} (h:KG p j k t) {i:Nat} (hi:i<=p+j):k i<=t:=by
 rw[<-h.top]
 exact gk (n:=p+j+1) (fun i hi=>h.sorted i (by omega)) hi (by omega)
theorem KG.next {p j:Nat} {k:Nat->Rat} {t t':Rat} (h:KG p j k t) (hc:(t<t'/\∃z:Int,t'=t+(z:Rat)/2/\z<=6)\/(t'=t/\1<=j/\t≠k (j+1))):KG p (j+1) (jm k (p+1+j) t') t':=by
 have hle:t<=t':=by
  rcases hc with⟨h1,_⟩|⟨h1,_⟩
  ·grind
  ·rw[h1];exact Rat.le_refl
 have hp:=h.p1
 refine⟨hp,fun i hi=>?_,?_,fun i hi=>?_,fun i h1 h2=>?_,fun i hi=>?_⟩
 ·rw[js (by omega),js (by omega)];exact h.first i hi
 ·rw[show p+(j+1)=p+1+j by omega,pz]
 ·by_cases he:i+1=p+1+j
  ·rw[he,pz,js (by omega),show i=p+j by omega,h.top];exact hle
  ·rw[js (by omega),js he];exact h.sorted i (by omega)
 ·by_cases he:i=j+1
  ·subst he
   rw[show j+1+p=p+1+j by omega,pz,js (by omega)]
   have:=h.le_top (i:=j+1) (by omega)
   rcases hc with⟨h3,_⟩|⟨h3,h4,h5⟩
   ·grind
   ·rw[h3];grind
  ·rw[js (by omega),js (by omega)];exact h.mult i h1 (by omega)
 ·by_cases he:i=p+1+j
  ·subst he
   rw[pz]
   obtain⟨z,e1,e2,e3⟩:=h.half (p+j) (by omega)
   rw[h.top]at e1
   rcases hc with⟨h3,y,e4,e5⟩|⟨h3,_⟩
   ·refine⟨z+y,?_,?_,by omega⟩
    ·rw[e4,e1]
     have:((z+y:Int):Rat)=(z:Rat)+(y:Rat):=by simp
     rw[this];grind
    ·have hy:0<y:=by
      rcases Int.lt_or_le 0 y with h6|h6
      ·exact h6
      ·exfalso
       have:((y:Int):Rat)<=0:=Rat.intCast_nonpos.2 h6
       grind
     omega
   ·exact⟨z,by rw[h3,e1],e2,by omega⟩
  ·rw[js he]
   obtain⟨z,e1,e2,e3⟩:=h.half i (by omega)
   exact⟨z,e1,e2,by omega⟩
def mY (p j:Nat) (k:Nat->Rat) (t:Rat):Nat->Rat:=fun i=>if i<p+1+j then k i else t+1
theorem KG.done {p j:Nat} {k:Nat->Rat} {t:Rat} (h:KG p j k t):Kn (2*p+2+j) p (mY p j k t):=by
 have hp:=h.p1
 have lo:∀{i},i<p+1+j->mY p j k t i=k i:=fun hi=>if_pos hi
 have hi':∀{i},p+1+j<=i->mY p j k t i=t+1:=fun hi=>if_neg (by omega)
 refine⟨hp,by omega,fun i hi=>?_,fun i hi=>?_,fun i h1 h2=>?_,fun i h1 h2=>?_⟩
 ·by_cases h1:i+1<p+1+j
  ·rw[lo h1,lo (by omega)];exact h.sorted i (by omega)
  ·rw[hi' (i:=i+1) (by omega)]
   by_cases h2:i<p+1+j
   ·rw[lo h2]
    have:=h.le_top (i:=i) (by omega)
    grind
   ·rw[hi' (by omega)];exact Rat.le_refl
 ·rw[lo (i:=i) (by omega),lo (i:=0) (by omega)];exact h.first i hi
 ·rw[hi' (i:=i) (by omega),hi' (i:=2*p+2+j-1) (by omega)]
 ·by_cases h3:i+p<p+1+j
  ·rw[lo (by omega),lo h3];exact h.mult i h1 (by omega)
  ·rw[hi' (i:=i+p) (by omega),lo (i:=i) (by omega)]
   have:=h.le_top (i:=i) (by omega)
   grind
theorem KG.NW {p j:Nat} {k:Nat->Rat} {t:Rat} (h:KG p j k t) (i:Nat):∃z:Int,mY p j k t i=(z:Rat)/2/\-4<=z/\z<=4+6*(j:Int):=by
 unfold mY
 split
 ·rename_i hi
  obtain⟨z,e1,e2,e3⟩:=h.half i (by omega)
  exact⟨z,e1,e2,by omega⟩
 ·obtain⟨z,e1,e2,e3⟩:=h.half (p+j) (by omega)
  rw[h.top]at e1
  refine⟨z+2,?_,by omega,by omega⟩
  have:((z+2:Int):Rat)=(z:Rat)+2:=by simp
  rw[e1,this];grind
open AV
def aR:AV->Rat
 |.rat q _=>q
 |_=>0
def bP (f:Nat->AV) (n s:Nat):Prop:=∀i,i<n->bG (f i) (.rat (aR (f i)) s)
abbrev bq (k:Nat->Rat) (n s:Nat):AV:=.aq 3 n (fun i=>.rat (k i) s)
theorem bY {k:Nat->Rat} {n s s':Nat} (h:s<=s'):bP (fun i=>.rat (k i) s) n s':=fun _ _=>fK h
theorem K9 {f:Nat->AV} {n s:Nat} (h:bP f n s):bG (.aq 3 n f) (bq (fun i=>aR (f i)) n s):=fq h
def BE:AV->Option (Nat×(Nat->AV))
 |.aq 3 n f=>some (n,f)
 |.nil=>some (0,fun _=>.rat 0 1)
 |_=>none
theorem YV {v:AV} {n s:Nat} {f:Nat->AV} (h:BE v=some (n,f)) (ha:bP f n s):bG v (bq (fun i=>aR (f i)) n s):=by
 unfold BE at h
 split at h
 ·simp only[ay,Prod.mk.injEq]at h
  obtain⟨rfl,rfl⟩:=h
  exact K9 ha
 ·simp only[ay,Prod.mk.injEq]at h
  obtain⟨rfl,rfl⟩:=h
  exact kX aa
 ·simp at h
open Go Go.Am.N AV
def kL (s:Nat):Kind (Nat×(Nat->Rat)):=⟨fun v=>match BE v with
 |some (n,f)=>some ((n,fun i=>aR (f i)),[bP f n s])
 |none=>none,fun a=>bq a.2 a.1 s,fun {v a q} h hq=>by
  split at h
  ·rename_i h1
   simp only[ay,Prod.mk.injEq]at h
   obtain⟨rfl,rfl⟩:=h
   exact YV h1 hq
  ·simp at h⟩
def gx (s:Nat):Kind Rat:=⟨fun v=>match jj v with
 |some (q,n)=>some (q,[n<=s])
 |none=>none,fun a=>.rat a s,fun {v a q} h hq=>by
  split at h
  ·rename_i h1
   simp only[ay,Prod.mk.injEq]at h
   obtain⟨rfl,rfl⟩:=h
   exact(kE h1).trans (fK hq)
  ·simp at h⟩
structure pP (α:Type) where
 read:List AV->Option (α×List Prop)
 make:α->List AV
 ok:∀{l:List AV} {a:α} {q:List Prop},read l=some (a,q)->az q->eH l (make a)
def kN:pP Unit:=⟨fun l=>match l with
 |[]=>some ((),[])
 |_=>none,fun _=>[],fun {l a q} h _=>by
  split at h
  ·trivial
  ·simp at h⟩
def kC {α β:Type} (k:Kind α) (kl:pP β):pP (α×β):=⟨fun l=>match l with
 |v::l=>match k.read v,kl.read l with
  |some (a,p),some (b,q)=>some ((a,b),p++q)
  |_,_=>none
 |[]=>none,fun a=>k.make a.1::kl.make a.2,fun {l a q} h hq=>by
  split at h
  ·split at h
   ·rename_i h1 h2
    simp only[ay,Prod.mk.injEq]at h
    obtain⟨rfl,rfl⟩:=h
    obtain⟨q1,q2⟩:=eL.1 hq
    exact⟨k.ok h1 q1,kl.ok h2 q2⟩
   ·simp at h
  ·simp at h⟩
def cN {α:Type} (k:pP α) (g:α->AV) (need:α->List Prop):Spec:=bX fun l=>match k.read l with
 |some (a,p)=>some (aK (g a) (p++need a))
 |none=>none
theorem cy {α:Type} {f:FuncId} {k:pP α} {g:α->AV} {need:α->List Prop} (h:∀a K,az (need a)->aE P f K (k.make a) [] (aK (g a) [])):∀K args pre r,cN k g need K args pre=some r->aE P f K args pre r:=by
 refine cK fun K args r hk hs _=>?_
 split at hs
 ·rename_i h1
  simp only[ay]at hs
  subst hs
  intro hn
  obtain⟨n1,hn⟩:=eL.1 hn
  exact gD (h _ K hn) hk (k.ok h1 n1) [] trivial
 ·simp at hs
open Go Go.Am.N AV ah au IntKind
theorem abQ:aT P uY F2 (aA F2):=aY Proofs.Tryz.func178 ag ag ag
theorem acD:aT P AN EW (aA EW):=aY Proofs.Tryz.func74 ag ag ag
def gP:bg:=nG::Kl
def jW:bg:=nG::qk
abbrev sK:Nat:=4096
abbrev ls (k:Nat->Rat) (n:Nat):AV:=bq k n sK
abbrev tP (t:Rat) (s:Nat):ak:=⟨false,true,3,1,fun _=>.rat t s⟩
abbrev Ad:List Nat:=[0,5,8,9,6,7]
abbrev IW (n:Nat) (k:Nat->Rat) (l i:Nat):List AV:=[ls k n,.ptr 0 0 3 0 [],.int .i64 l,.int .i64 i,.int .i64 0,.int .i64 0]
abbrev z4:Code:=aA F2
theorem VF {n:Nat} {k:Nat->Rat} {p:Int} {t:Rat}:aH T gP [200013,21,31] 60 Ad (before z4 [1,1,1,0,1]) ⟨aQ 0 [ls k n,.int .i64 p,.rat t sK],[],0⟩=
  let c11:Prop:=((↑n:Int)==(0:Int))=false;let c10:Prop:=0<1;let c9:AV:=aq 3 n fun i=>rat (k i) 4096;let c8:Nat:=Int.toNat (0:Int);let c7:AV:=ptr 0 0 (aV (rat t sK)).size 0 [];let c6:AV:=int i64 0;let c5:Nat×ak:=(0,ak.mk false true (aV (rat t sK)).size 1 fun x=>rat t 4096);let c4:Int:=(↑n:Int)-(1:Int);let c12:Prop:=(0:Int)<=(0:Int)/\c8<n;let c3:Bool:=bif false then true else decide (dM t (k c8)<(0:Int));let c2:ah (List AV×aF):=leaf ret ([c9,c7,tuple [],tuple [],c6,int i64 7],[c5]);let c1:ah (List AV×aF):=leaf normal ([c9,c7,c6,c6,c6,c6],[c5]);some (fork c3 (aj [c11,c10,c12,c3=true] (fork true c2 c1)) (aj [c11,c10,c12,c3=false,c10,-(2:Int)^63<=c4/\c4<(2:Int)^63,(0:Int)<=c4/\c4.toNat<n] (fork (bif false then true else decide (dM t (k c4.toNat)>(0:Int))) c2 c1))):=ag
theorem Wr {n l i:Nat} {k:Nat->Rat} {t:Rat}:aH T gP [36,49,58] 60 Ad [part z4 [1,1,1,0,1,0,0]] ⟨aC Ad (IW n k l i),[(0,tP t sK)],1⟩=
  let c7:Int:=(↑i:Int);let c6:List AV:=[int i64 0,int i64 0];let c5:AV:=ptr 0 0 3 0 [];let c4:AV:=aq 3 n fun i=>rat (k i) 4096;let c2:Nat×ak:=((0:Nat),aJ fun x=>rat t 4096);let c10:AV:=int i64 c7;let c1:Int:=c7+(1:Int);let c8:Int:=dM (k c7.toNat) (k c1.toNat);let c3:Prop:=-(2:Int)^63<=c1/\c1<(2:Int)^63;let c9:List Prop:=[c3,(0:Int)<=c1/\c1.toNat<n];some (aj [c3] (fork (decide (c1<(↑n:Int))) (aj (((0:Int)<=c7/\c7.toNat<n)::c9) (fork (decide (c8>=(0:Int))) (aj [c3] (leaf normal (c4::c5::int i64 (↑l:Int)::int i64 c1::c6,[c2]))) (aj (((0:Nat)<1)::c9) (fork (decide (dM t (k c1.toNat)<(0:Int))) (leaf (exit 0) (c4::c5::c10::c10::c6,[c2])) (aj [c3] (leaf normal (c4::c5::c10::int i64 c1::c6,[c2]))))))) (leaf (exit 0) (c4::c5::int i64 (↑l:Int)::c10::c6,[c2])))):=ag
theorem ad2 {n l i:Nat} {k:Nat->Rat} {t:Rat}:cw T gP [] 60 F2 [part z4 [1,1,1,1]] ⟨aC Ad (IW n k l i),[(0,tP t sK)],1⟩=
  some (leaf ret [int i64 (↑l:Int),int i64 0]):=ag
abbrev zR:List Nat:=[0,5,9,6,7]
abbrev xq (n:Nat) (k:Nat->Rat) (i:Nat):List AV:=[ls k n,.ptr 0 0 3 0 [],.int .i64 i,.int .i64 0,.int .i64 0]
abbrev z5:Code:=aA EW
theorem ae3 {n p:Nat} {k:Nat->Rat} {t:Rat}:aH T jW [19,27] 60 zR (before z5 [1,1,1,1,0]) ⟨aQ 0 [ls k n,.int .i64 p,.rat t sK],[],0⟩=
  let c13:AV:=int i64 0;let c12:Prop:=0<1;let c10:Prop:=(0:Int)<=(0:Int)/\Int.toNat (0:Int)<n;let c9:AV:=aq 3 n fun i=>rat (k i) 4096;let c7:AV:=ptr 0 0 (aV (rat t sK)).size 0 [];let c6:Nat×ak:=(0,ak.mk false true (aV (rat t sK)).size 1 fun x=>rat t 4096);let c5:Int:=(2:Int)^63;let c4:Int:=dM t (k (Int.toNat (0:Int)));let c3:Int:=(↑n:Int)-(1:Int);let c14:Int:=c3-(↑p:Int);let c11:Bool:=decide (c4<(0:Int));let c2:ah (List AV×aF):=leaf ret ([c9,c7,tuple [],c13,int i64 7],[c6]);let c8:Int:=c14-(1:Int);let c1:ah (List AV×aF):=aj [-c5<=c14/\c14<c5,-c5<=c8/\c8<c5] (leaf normal ([c9,c7,int i64 c8,c13,c13],[c6]));some (aj [-c5<=c3/\c3<c5] (fork c11 (aj [c12,c10,c11=true] (fork true c2 c1)) (aj [c12,c10,c11=false,c12,(0:Int)<=c3/\c3.toNat<n] (fork (bif false then true else decide (dM t (k c3.toNat)>(0:Int))) c2 c1)))):=ag
theorem aaz {n i:Nat} {k:Nat->Rat} {t:Rat}:aH T jW [34,42] 60 zR [part z5 [1,1,1,1,0,0,0]] ⟨aC zR (xq n k i),[(0,tP t sK)],1⟩=
  let c7:AV:=int i64 0;let c6:AV:=ptr 0 0 3 0 [];let c5:AV:=aq 3 n fun i=>rat (k i) 4096;let c4:Nat×ak:=((0:Nat),aJ fun x=>rat t 4096);let c3:Int:=(↑i:Int);let c9:Int:=c3-(1:Int);let c8:Bool:=decide (c3>(0:Int));let c2:ah (List AV×aF):=leaf (exit 0) ([c5,c6,int i64 c3,c7,c7],[c4]);let c1:ah (List AV×aF):=aj [-(2:Int)^63<=c9/\c9<(2:Int)^63] (leaf normal ([c5,c6,int i64 c9,c7,c7],[c4]));some (fork c8 (aj [c8=true,(0:Nat)<1,(0:Int)<=c3/\c3.toNat<n] (fork (bif true then decide (dM t (k c3.toNat)<(0:Int))else false) c1 c2)) (aj [c8=false] (fork false c1 c2))):=ag
theorem agU {n i:Nat} {k:Nat->Rat} {t:Rat}:cw T jW [] 60 EW [part z5 [1,1,1,1,1]] ⟨aC zR (xq n k i),[(0,tP t sK)],1⟩=
  some (leaf ret [int i64 (↑i:Int),int i64 0]):=ag
theorem lZ:bz P gP:=cZ LA
theorem Ex:bz P jW:=cZ sA
theorem ye {q:Rat} {n:Nat}:aR (.rat q n)=q:=rfl
theorem Oj:max 1 (bN (Int.natAbs 1))=1:=by decide
theorem xT {a b:Rat}:dM a b>=(0:Int)↔b<=a:=by
 have:=@mI a b
 constructor
 ·intro h
  have:¬a<b:=fun h'=>by have:=mI.2 h';omega
  grind
 ·intro h
  have:¬dM a b<0:=fun h'=>by have:=mI.1 h';grind
  omega
theorem gM {rl:List (Nat×Nat)} {l i s s' s2:Nat} {x y:Nat->Rat} {t:Rat} (hx:∀i,i<l->x i=y i) (ht:t=y l) (h1:s<=s2) (h2:s'<=s2) (hi:i<l+1):eG rl (if i<l then .rat (x i) s else nth [.rat t s'] (.rat 0 1) (i-l+0)) (.rat (y i) s2):=by
 by_cases h:i<l
 ·rw[if_pos h,hx i h];exact .inr ⟨rfl,bM rfl h1⟩
 ·have:i=l:=aa
  subst this
  rw[if_neg h,Nat.sub_self,ht]
  exact .inr ⟨rfl,bM rfl h2⟩
theorem alR {rl:List (Nat×Nat)} {i s' s2:Nat} {y:Nat->Rat} {t:Rat} (ht:t=y 0) (h2:s'<=s2) (hi:i<1):eG rl (nth [.rat t s'] (.rat 0 1) (i+0)) (.rat (y i) s2):=by
 have:i=0:=aa
 subst this
 rw[ht]
 exact .inr ⟨rfl,bM rfl h2⟩
def eP (n:Nat) (k:Nat->Rat) (t:Rat):Prop:=t<k 0\/k (n-1)<t
instance {n:Nat} {k:Nat->Rat} {t:Rat}:Decidable (eP n k t):=inferInstanceAs (Decidable (t<k 0\/k (n-1)<t))
def fj (n:Nat) (k:Nat->Rat) (t:Rat):Nat:=if eP n k t then 0 else bT n k t
def fE (n:Nat) (k:Nat->Rat) (t:Rat):Int:=if eP n k t then 7 else 0
abbrev tM (n:Nat) (k:Nat->Rat) (t:Rat):AV:=.tuple [.int .i64 (fj n k t),.int .i64 (fE n k t)]
theorem EO {n:Nat} {k:Nat->Rat} {t:Rat} (h:eP n k t):eF [.int .i64 0,.int .i64 7] (tM n k t):=
 ⟨bQ (by unfold fj;rw[if_pos h];rfl),bQ (by unfold fE;rw[if_pos h]),trivial⟩
theorem R7 {n i:Nat} {k:Nat->Rat} {t:Rat} (h:¬eP n k t) (hi:i=bT n k t):eF [.int .i64 i,.int .i64 0] (tM n k t):=
 ⟨bQ (by unfold fj;rw[if_neg h,hi]),bQ (by unfold fE;rw[if_neg h]),trivial⟩
abbrev wC (k:Nat->Rat) (t:Rat) (i:Nat):Nat:=lQ (fun i=>decide (k i<k (i+1))&&decide (k i<=t)) i
theorem Rr {g:Nat->Bool} {m:Nat}:lQ g (m+1)=if g m then m else lQ g m:=rfl
theorem alZ {n p0:Nat} {k:Nat->Rat} {p:Int} {t:Rat} (h:Kn n p0 k) (hn:n<2^40) (K:Nat):aE P uY K [ls k n,.int .i64 p,.rat t sK] [] (aK (tM n k t) []):=by
 have hp:=h.p1
 have hl:=h.len
 refine fI (r:=aK (tM n k t) []) hT lZ hm abQ rfl aX rfl [1,1,1,0,1] (i:=0) (y:=part z4 [1,1,1,0,1,0,0]) (z:=part z4 [1,1,1,1]) ag ag ag (f1:=[200013,21,31]) (f2:=[36,49,58]) (f3:=[]) 60 Ad 1
  (fun a:Nat×Nat=>IW n k a.2 a.1) (fun _=>[(0,tP t sK)]) (fun a=>a.1+1<=n/\a.2=wC k t a.1/\k a.1<=t/\¬eP n k t) (fun a=>a.2=bT n k t/\¬eP n k t) (fun a=>n-a.1) (fun _=>⟨⟨_,VF,?_⟩,fun⟨i,l⟩ ⟨h1,h2,h3,h4⟩=>⟨_,Wr,?_⟩,fun⟨i,l⟩ ⟨h1,h2⟩=>⟨_,ad2,R7 h2 h1⟩⟩) K []
 ·simp only[ah.all,az,aZ,bk,mI,tq,cond_false,Int.toNat_zero,beq_eq_false_iff_ne,ne_eq,show((n:Int)-1).toNat=n-1 by omega]
  (repeat' with_reducible first|refine And.intro ?_ ?_|intro _)
  all_goals first|omega|assumption|skip
  ·exact⟨_,ag,EO (.inl ‹_›)⟩
  ·exact absurd ‹true=false› (by decide)
  ·exact⟨_,ag,EO (.inr ‹_›)⟩
  ·rename_i a b
   have hin:¬eP n k t:=fun h=>h.elim (fun h=>a h) fun h=>b h
   exact⟨(0,0),⟨aa,rfl,by show k 0<=t;grind,hin⟩,[(0,0)],rfl,rfl,rfl,aB trivial⟩
 ·have hs:∀i,i+1<n->k i<=k (i+1):=h.sorted
  simp only at h1 h2 h3
  simp only[ah.all,az,aZ,bk,mI,xT,aW,show((i:Int)+1).toNat=i+1 by omega]
  (repeat' with_reducible first|refine And.intro ?_ ?_|intro _)
  all_goals first|omega|assumption|skip
  ·rename_i hi hge
   have:=hs i aa
   have e:wC k t (i+1)=wC k t i:=by
    have:¬k i<k (i+1):=by grind
    rw[wC,Rr,if_neg (by simp[this])]
   exact⟨(i+1,l),⟨aa,h2.trans e.symm,by show k (i+1)<=t;grind,h4⟩,by dsimp only;omega,[(0,0)],rfl,rfl,rfl,aB trivial⟩
  ·rename_i hi hlt hb
   have:k i<k (i+1):=by grind
   have hiv:bT n k t=i:=su ⟨⟨aa,hs,this⟩,h3,by grind,.inl hb⟩
   exact⟨rfl,(i,i),⟨hiv.symm,h4⟩,[(0,0)],rfl,rfl,rfl,aB trivial⟩
  ·rename_i hi hlt hb
   have:k i<k (i+1):=by grind
   have e:wC k t (i+1)=i:=by
    rw[wC,Rr,if_pos (by simp[this,h3])]
   exact⟨(i+1,i),⟨aa,e.symm,by show k (i+1)<=t;grind,h4⟩,by dsimp only;omega,[(0,0)],rfl,rfl,rfl,aB trivial⟩
  ·have hin:i=n-1:=aa
   subst hin
   exact⟨rfl,(n-1,l),⟨h2,h4⟩,[(0,0)],rfl,rfl,rfl,aB trivial⟩
theorem air {n p:Nat} {k:Nat->Rat} {t:Rat} (h:Kn n p k) (hn:n<2^40) (K:Nat):aE P AN K [ls k n,.int .i64 p,.rat t sK] [] (aK (tM n k t) []):=by
 have hp:=h.p1
 have hl:=h.len
 refine fI (r:=aK (tM n k t) []) hT Ex hm acD rfl aX rfl [1,1,1,1,0] (i:=0) (y:=part z5 [1,1,1,1,0,0,0]) (z:=part z5 [1,1,1,1,1]) ag ag ag (f1:=[19,27]) (f2:=[34,42]) (f3:=[]) 60 zR 1
  (fun i:Nat=>xq n k i) (fun _=>[(0,tP t sK)]) (fun i=>i+p+2<=n/\(∀j,i<j->j+p+2<=n->t<k j)/\¬eP n k t) (fun i=>i=bT n k t/\¬eP n k t) (fun i=>i) (fun _=>⟨⟨_,ae3,?_⟩,fun i ⟨h1,h2,h4⟩=>⟨_,aaz,?_⟩,fun i ⟨h1,h2⟩=>⟨_,agU,R7 h2 h1⟩⟩) K []
 ·simp only[ah.all,az,aZ,bk,mI,tq,cond_false,Int.toNat_zero,show((n:Int)-1).toNat=n-1 by omega]
  (repeat' with_reducible first|refine And.intro ?_ ?_|intro _)
  all_goals first|omega|assumption|skip
  ·exact⟨_,ag,EO (.inl ‹_›)⟩
  ·exact absurd ‹true=false› (by decide)
  ·exact⟨_,ag,EO (.inr ‹_›)⟩
  ·rename_i a b
   have hin:¬eP n k t:=fun h=>h.elim (fun h=>a h) fun h=>b h
   refine⟨n-p-2,⟨aa,fun j h1 h2=>aa,hin⟩,[(0,0)],rfl,?_,rfl,aB trivial⟩
   rw[show(n:Int)-1-(p:Int)-1=((n-p-2:Nat):Int) by omega]
   rfl
 ·simp only[ah.all,az,aZ,bk,mI,aW,cond_true]
  have hin:k 0<=t/\t<=k (n-1):=by
   constructor
   ·have:¬t<k 0:=fun h=>h4 (.inl h)
    grind
   ·have:¬k (n-1)<t:=fun h=>h4 (.inr h)
    grind
  have fin:k i<=t->i=bT n k t:=fun h3=>by
   by_cases hi:i+p+2<n
   ·have h5:=h2 (i+1) aa aa
    exact(su ⟨⟨aa,h.sorted,by grind⟩,h3,by grind,.inl h5⟩).symm
   ·have e1:=h.last (i+1) aa aa
    have e2:=h.last (i+p) aa aa
    have e3:=h.mult i aa aa
    exact(su ⟨⟨aa,h.sorted,by rw[e1,<-e2];exact e3⟩,h3,by rw[e1];exact hin.2,.inr e1⟩).symm
  (repeat' with_reducible first|refine And.intro ?_ ?_|intro _)
  all_goals first|omega|assumption|skip
  ·rename_i a b
   refine⟨i-1,⟨aa,fun j h5 h6=>?_,h4⟩,by dsimp only;omega,[(0,0)],rfl,?_,rfl,aB trivial⟩
   ·by_cases hj:j=i
    ·subst hj;exact b
    ·exact h2 j aa h6
   ·rw[show(i:Int)-1=((i-1:Nat):Int) by omega];rfl
  ·rename_i a b
   exact⟨rfl,i,⟨fin (by grind),h4⟩,[(0,0)],rfl,rfl,rfl,aB trivial⟩
  ·exact absurd ‹false=true› (by decide)
  ·have hi:i=0:=aa
   subst hi
   exact⟨rfl,0,⟨fin hin.1,h4⟩,[(0,0)],rfl,rfl,rfl,aB trivial⟩
abbrev Pw:pP ((Nat×(Nat->Rat))×Int×Rat×Unit):=kC (kL sK) (kC kI (kC (gx sK) kN))
def r5:Spec:=cN Pw (fun a=>tM a.1.1 a.1.2 a.2.2.1) fun a=>[Kn a.1.1 a.2.1.toNat a.1.2,0<=a.2.1,a.1.1<2^40]
theorem Io:∀K args pre r,r5 K args pre=some r->aE P uY K args pre r:=cy fun _ K hn=>alZ hn.1 hn.2.2 K
theorem OP:∀K args pre r,r5 K args pre=some r->aE P AN K args pre r:=cy fun⟨⟨n,k⟩,p,t,_⟩ K hn=>by
 have:=air hn.1 hn.2.2 K (t:=t)
 rw[Int.toNat_of_nonneg hn.2.1]at this
 exact this
theorem X5:aT P DR FV (aA FV):=aY Proofs.Tryz.func212 ag ag ag
theorem Tu:aT P Ca zV (aA zV):=aY Proofs.Tryz.func155 ag ag ag
def NS:bg:=(Au,ja kR kR DK r7)::gI
theorem Z0 {a b t:Rat} {n:Nat}:bW T NS [] 60 FV (aA FV) ⟨aQ 0 [.rat a n,.rat b n,.rat t n],[],0⟩=
  let c3:Nat:=n+n+1;let c2:Nat:=2^42;let c1:Prop:=0<1;some (aj [c1,c1,n<c2,n<c2,c1,c1,n<c2,n<c2,c3<c2,c3<c2,c1] (aj [c1,c1] (aj [c1] (leaf ret [rat ((t-a)/(b-a)) (c3+c3)])))):=ag
abbrev sF:Nat:=16386
def KQ:Spec:=cN (kC (gx sK) (kC (gx sK) (kC (gx sK) kN))) (fun a=>.rat (fr a.1 a.2.1 a.2.2.1) sF) fun _=>[]
theorem ama:bz P NS:=aL (jl fun _ _ K hn=>Ib hn.1 hn.2 K) iG
theorem Pc:∀K args pre r,KQ K args pre=some r->aE P DR K args pre r:=cy fun⟨a,b,t,_⟩ K _=>by
 refine cj (r:=aK (.rat (fr a b t) sF) []) hT ama hm X5 rfl aX rfl 60 Z0 (fun _=>?_) K []
 simp only[ah.all,az]
 have h1:sK=4096:=rfl
 (repeat' with_reducible refine And.intro ?_ ?_)
 all_goals first|omega|exact(bM rfl (show sK+sK+1+(sK+sK+1)<=sF by decide))
def sS:bg:=nG::(uY,r5)::(DR,KQ)::(vH,Ff)::gI
def SB (d:Nat):Nat:=65536*4^d
abbrev HB (d:Nat):Nat:=1+(sF+SB d)+1
abbrev oo:List Nat:=[0,1,5,9,11,12,6,7,8]
abbrev vU (n:Nat) (k:Nat->Rat) (p i d:Nat):List AV:=[ls k n,.int .i64 p,.ptr 0 0 3 0 [],.int .i64 i,.own 2 3 0 (d+1),.int .i64 ((d+1:Nat):Int),.int .i64 0,.nil,.int .i64 0]
abbrev kH (m:Nat) (x:Nat->Rat) (s:Nat->Nat):ak:=⟨true,true,3,m,fun i=>.rat (x i) (s i)⟩
abbrev Co:Code:=aA zV
abbrev wG:Code:=part Co [1,1,1,1,1,0,1,0,0]
abbrev tK:Code:=part wG [1,0,0]
abbrev zJ:List Nat:=[0,1,5,9,12,13,54,55,56,6,7,8]
abbrev Ig (n:Nat) (k:Nat->Rat) (p i d j:Nat):List AV:=[ls k n,.int .i64 p,.ptr 0 0 3 0 [],.int .i64 i,.int .i64 ((d+1:Nat):Int),.own 3 3 0 (d+2),.own 2 3 0 (d+1),.int .i64 ((d+1:Nat):Int),.int .i64 j,.int .i64 0,.nil,.int .i64 0]
theorem T5 {n p:Nat} {k:Nat->Rat} {t:Rat}:aH T sS [26,30,36,43] 60 oo (before Co [1,1,1,1,1,0,1]) ⟨aQ 0 [ls k n,.int .i64 p,.rat t sK],[],0⟩=
  let c13 : Int := fE n (fun i => aR (rat (k i) sK)) t; let c12 : AV := int i64 (0 : Int); let c9 : AV := aq 3 n fun i => rat (k i) 4096; let c7 : AV := ptr 0 0 (aV (rat t sK)).size 0 []; let c6 : Int := (2 : Int) ^ 63; let c5 : Nat × ak := ((0 : Nat), ak.mk false true (aV (rat t sK)).size 1 fun x => rat t 4096); let c4 : Int := (↑p : Int); let c3 : Int := (↑(fj n (fun i => aR (rat (k i) sK)) t) : Int); let c15 : Prop := -c6 <= c3 - c4 /\ c3 - c4 < c6; let c14 : Prop := -c6 <= c3 + c4 /\ c3 + c4 < c6; let c11 : Bool := bif false then true else decide (c3 + c4 >= (↑n : Int)); let c10 : Bool := decide (c4 < (0 : Int)); let c8 : Bool := bif false then true else decide (c3 - c4 < (0 : Int)); let c2 : ah (List AV × aF) := leaf ret ([c9, int i64 c4, c7, int i64 c3, tuple [], tuple [], c12, nil, int i64 (7 : Int)], [c5]); let c1 : ah (List AV × aF) := aj [(1 : Nat) * 3 <= 2 ^ 24] (leaf normal ([c9, int i64 c4, c7, int i64 c3, own 131072 3 0 1, int i64 (1 : Int), c12, nil, c12], [((131072 : Nat), ak.mk true true 3 1 fun i => nth [rat (↑(1 : Int) : Rat) (Max.max 1 (bN (Int.natAbs (1 : Int))))] (rat 0 1) i), c5])); some (aj [(0 : Nat) < 1, bP (fun i => rat (k i) sK) n sK, sK <= sK, Kn n c4.toNat fun i => aR (rat (k i) sK), (0 : Int) <= c4, n < 2 ^ 40] (fork (c13 != (0 : Int)) (leaf ret ([c9, int i64 c4, c7, int i64 c3, tuple [], tuple [], c12, nil, int i64 c13], [c5])) (fork false (fork true (aj [c10 = true, true = true] (fork true c2 c1)) (aj [c10 = true, true = false, c14] (fork c11 c2 c1))) (fork c8 (aj [c10 = false, c15, c8 = true] (fork true c2 c1)) (aj [c10 = false, c15, c8 = false, c14] (fork c11 c2 c1)))))) := ag
theorem WW {n p i d:Nat} {k x:Nat->Rat} {t:Rat}:aH T sS [48] 60 oo (before wG [1,0]) ⟨aC oo (vU n k p i d),[(2,kH (d+1) x fun _=>SB d),(0,tP t sK)],3⟩=
  let c2:Int:=(↑(d+1):Int);let c1:List AV×aF:=([aq 3 n fun i=>rat (k i) 4096,int i64 (↑p:Int),ptr 0 0 3 0 [],int i64 (↑i:Int),own 2 3 0 (d+1),int i64 c2,int i64 0,nil,int i64 0],[(2,ak.mk true true 3 (d+1) fun i=>rat (x i) (SB d)),((0:Nat),aJ fun x=>rat t 4096)]);some (fork (decide (c2<=(↑p:Int))) (leaf normal c1) (leaf (exit 0) c1)):=ag
theorem aky {n p i d:Nat} {k x:Nat->Rat} {t:Rat}:aH T sS [] 60 zJ (before tK [1,0,1]) ⟨aC oo (vU n k p i d),[(2,kH (d+1) x fun _=>SB d),(0,tP t sK)],3⟩=
  let c3:AV:=int i64 0;let c2:Int:=(↑(d+1):Int);let c1:Int:=c2+(1:Int);some (aj [-(2:Int)^63<=c1/\c1<(2:Int)^63,(0:Int)<=c1/\c1<=c1/\c1<=(2:Int)^47/\c1*(↑(56:Nat):Int)<=(2:Int)^47] (leaf normal ([aq 3 n fun i=>rat (k i) 4096,int i64 (↑p:Int),ptr 0 0 3 0 [],int i64 (↑i:Int),int i64 c2,own 8195 3 0 c1.toNat,own 2 3 0 (d+1),int i64 c2,c3,c3,nil,c3],[(2,ak.mk true true 3 (d+1) fun i=>rat (x i) (SB d)),(8195,ak.mk true true 3 c1.toNat fun x=>rat 0 1),((0:Nat),aJ fun x=>rat t 4096)]))):=ag
theorem ajY {n p i d j:Nat} {k x y:Nat->Rat} {s:Nat->Nat} {t:Rat}:aH T sS [57] 60 zJ [part tK [1,0,1,0,0]] ⟨aC zJ (Ig n k p i d j),[(3,kH (d+2) y s),(2,kH (d+1) x fun _=>SB d),(0,tP t sK)],4⟩=
  let c20:AV:=int i64 0;let c19:AV:=ptr 0 0 3 0 [];let c18:AV:=aq 3 n fun i=>rat (k i) 4096;let c16:Nat:=d+1;let c13:Nat×ak:=((0:Nat),aJ fun x=>rat t 4096);let c11:Int:=(↑j:Int);let c10:Prop:=0<1;let c9:Nat:=d+2;let c8:Nat:=Max.max 1 (bN (Int.natAbs (1:Int)));let c7:Nat:=2^42;let c5:Int:=(2:Int)^63;let c25:Prop:=(0:Int)<=c11/\c11.toNat<c9;let c23:Nat:=c8+sF+1;let c22:AV:=own 3 3 0 c9;let c21:AV:=own 2 3 0 c16;let c12:Nat×ak:=(2,ak.mk true true 3 c16 fun i=>rat (x i) (SB d));let c6:Int:=c11+(1:Int);let c4:Nat:=c11.toNat+0;let c3:Int:=(↑c16:Int);let c29:AV:=int i64 c3;let c27:Prop:=(0:Int)<=c6/\c6.toNat<c9;let c24:Prop:=-c5<=c6/\c6<c5;let c17:Int:=(↑i:Int)-c3;let c2:Nat:=c6.toNat+0;let c28:Int:=c17+(1:Int);let c26:Nat:=s c2+(sF+SB d)+1;let c15:Nat:=bif c4==c2 then c26 else s c4;let c1:Int:=c28+c11;let c14:Rat:=fr (k c1.toNat) (k (c1+c3).toNat) t;some (fork (decide (c11<c3)) (aj [(0:Int)<=c11/\c11.toNat<c16,c4<c16,c10] (aj [-c5<=c17/\c17<c5,-c5<=c28/\c28<c5,-c5<=c1/\c1<c5] (aj [(0:Int)<=c1/\c1.toNat<n,-c5<=c1+c3/\c1+c3<c5,(0:Int)<=c1+c3/\(c1+c3).toNat<n,c10,sK<=sK,sK<=sK,sK<=sK,c10] (aj [c24,c24,c27,c2<c9,c10,c10,sF<c7,SB d<c7,s c2<c7,sF+SB d<c7,c27,c2<c9] (aj [c25,c4<c9,c10,c8<c7,sF<c7,c10,c23<c7,SB d<c7,c15<c7,c23+SB d<c7,c25,c4<c9] (aj [c24] (leaf normal ([c18,int i64 (↑p:Int),c19,int i64 (↑i:Int),c29,c22,c21,c29,int i64 c6,c20,nil,c20],[c12,(3,ak.mk true true 3 c9 fun j=>rat (bif j==c4 then(bif c4==c2 then y c2+c14*x c4 else y c4)+((↑(1:Int):Rat)-c14)*x c4 else bif j==c2 then y c2+c14*x c4 else y j) (bif j==c4 then c15+(c23+SB d)+1 else bif j==c2 then c26 else s j)),c13])))))))) (leaf (exit 2) ([c18,int i64 (↑p:Int),c19,int i64 (↑i:Int),c29,c22,c21,c29,int i64 c11,c20,nil,c20],[c12,(3,ak.mk true true 3 c9 fun i=>rat (y i) (s i)),c13]))):=ag
theorem Yf {n p i d j:Nat} {k x y:Nat->Rat} {s:Nat->Nat} {t:Rat}:aH T sS [] 60 oo [part tK [1,1],part wG [1,1]] ⟨aC zJ (Ig n k p i d j),[(3,kH (d+2) y s),(2,kH (d+1) x fun _=>SB d),(0,tP t sK)],4⟩=
  let c1:Int:=(↑(d+1):Int)+(1:Int);some (aj [-(2:Int)^63<=c1/\c1<(2:Int)^63] (leaf normal ([aq 3 n fun i=>rat (k i) 4096,int i64 (↑p:Int),ptr 0 0 3 0 [],int i64 (↑i:Int),own 3 3 0 (d+2),int i64 c1,int i64 0,nil,int i64 0],[(3,ak.mk true true 3 (d+2) fun i=>rat (y i) (s i)),((0:Nat),aJ fun x=>rat t 4096)]))):=ag
theorem akv {n p i d:Nat} {k x:Nat->Rat} {t:Rat}:cw T sS [] 60 zV [part Co [1,1,1,1,1,1]] ⟨aC oo (vU n k p i d),[(2,kH (d+1) x fun _=>SB d),(0,tP t sK)],3⟩=
  let c1:Int:=(↑i:Int)-(↑p:Int);some (aj [-(2:Int)^63<=c1/\c1<(2:Int)^63] (leaf ret [int i64 c1,aq 3 (d+1) fun i=>rat (x (i+0)) (SB d),int i64 0])):=ag
theorem yz {d:Nat}:SB (d+1)=4*SB d:=by unfold SB;rw[Nat.pow_succ];omega
theorem rH:∀{d:Nat},65536<=SB d
 |0=>by unfold SB;omega
 |d+1=>by rw[yz];have:=rH (d:=d);omega
theorem Ao:sF=16386:=rfl
theorem UZ {d e:Nat} (h:d<=e):SB d<=SB e:=Nat.mul_le_mul_left _ (Nat.pow_le_pow_right aa h)
abbrev sV:Nat:=268435456
theorem sP {d:Nat} (h:d<=6):SB d<=sV:=Nat.le_trans (UZ h) (by decide)
def zf (n:Nat) (k:Nat->Rat) (p:Nat) (t:Rat) (f:Nat->Rat):AV:=.tuple [.int .i64 (if eP n k t then 0 else(bT n k t:Int)-p),.aq 3 (if eP n k t then 0 else p+1) (fun j=>.rat (f j) sV),.int .i64 (fE n k t)]
abbrev FJ (n:Nat) (k:Nat->Rat) (p:Nat) (t:Rat):AV:=zf n k p t (vB k (bT n k t) t p)
theorem Uh {n p:Nat} {k f:Nat->Rat} {t:Rat} (h:eP n k t):eF [.int .i64 0,.nil,.int .i64 7] (zf n k p t f):=by
 unfold zf fE
 rw[if_pos h,if_pos h,if_pos h]
 exact⟨.refl _,kX aa,.refl _,trivial⟩
theorem akJ {n p:Nat} {k f:Nat->Rat} {t:Rat} {g:Nat->AV} (h:¬eP n k t) (hg:∀j,j<p+1->bG (g j) (.rat (f j) sV)):eF [.int .i64 ((bT n k t:Int)-p),.aq 3 (p+1) g,.int .i64 0] (zf n k p t f):=by
 unfold zf fE
 rw[if_neg h,if_neg h,if_neg h]
 exact⟨.refl _,fq hg,.refl _,trivial⟩
theorem Av:bz P sS:=cZ (aL Io (aL Pc (aL (Hx IU) iG)))
def Ap (k:Nat->Rat) (i:Nat) (t:Rat) (d j:Nat):Rat:=if j=0 then 0 else fr (k (i-d+(j-1))) (k (i-d+(j-1)+(d+1))) t*vB k i t d (j-1)
def mN (k:Nat->Rat) (i:Nat) (t:Rat) (d j x:Nat):Rat:=if x<j then vB k i t (d+1) x else if x=j then Ap k i t d j else 0
def jK (d j x:Nat):Nat:=if x<j then SB (d+1)else if x=j then HB d else 1
theorem YR {rl:List (Nat×Nat)} {k:Nat->Rat} {i d j x:Nat} {t:Rat} (hj:j<=d):
  eG rl (.rat (bif x==j then(bif j==j+1 then mN k i t d j (j+1)+fr (k (i-d+j)) (k (i-d+j+(d+1))) t*vB k i t d j else mN k i t d j j)+(((1:Int):Rat)-fr (k (i-d+j)) (k (i-d+j+(d+1))) t)*vB k i t d j
   else bif x==j+1 then mN k i t d j (j+1)+fr (k (i-d+j)) (k (i-d+j+(d+1))) t*vB k i t d j else mN k i t d j x)
   (bif x==j then(bif j==j+1 then jK d j (j+1)+(sF+SB d)+1 else jK d j j)+(1+sF+1+SB d)+1 else bif x==j+1 then jK d j (j+1)+(sF+SB d)+1 else jK d j x))
   (.rat (mN k i t d (j+1) x) (jK d (j+1) x)):=by
 have h1:=yz (d:=d)
 have h2:=rH (d:=d)
 have h3:=Ao
 have hjj:(j==j+1)=false:=by simp
 rw[hjj]
 refine .inr ⟨rfl,?_⟩
 by_cases hx:x=j
 ·subst hx
  simp only[beq_self_eq_true,cond_true,cond_false]
  refine bM ?_ ?_
  ·unfold mN
   rw[if_neg aa,if_pos rfl,if_pos aa,vB,if_pos hj]
   have:((1:Int):Rat)=1:=rfl
   rw[this];rfl
  ·unfold jK HB
   rw[if_neg aa,if_pos rfl,if_pos aa];omega
 ·have hb:(x==j)=false:=by simpa using hx
  rw[hb]
  by_cases hx2:x=j+1
  ·subst hx2
   simp only[beq_self_eq_true,cond_true,cond_false]
   refine bM ?_ ?_
   ·unfold mN Ap
    rw[if_neg aa,if_neg aa,if_neg aa,if_pos rfl,if_neg aa,Nat.add_sub_cancel,Rat.zero_add]
   ·unfold jK HB
    rw[if_neg aa,if_neg aa,if_neg aa,if_pos rfl];omega
  ·have hb2:(x==j+1)=false:=by simpa using hx2
   rw[hb2]
   simp only[cond_false]
   refine bM ?_ ?_
   ·unfold mN
    by_cases hlt:x<j
    ·rw[if_pos hlt,if_pos aa]
    ·rw[if_neg hlt,if_neg hx,if_neg aa,if_neg hx2]
   ·unfold jK
    by_cases hlt:x<j
    ·rw[if_pos hlt,if_pos aa];omega
    ·rw[if_neg hlt,if_neg hx,if_neg aa,if_neg hx2];omega
theorem Yk {n p:Nat} {k:Nat->Rat} {t:Rat} (h:Kn n p k) (hp6:p<=6) (hn:n<2^40) (K:Nat):aE P Ca K [ls k n,.int .i64 p,.rat t sK] [] (aK (FJ n k p t) []):=by
 refine gr (r:=aK (FJ n k p t) []) hT Tu rfl aX rfl (fun _ c h0=>?_) K []
 have hk:=m7 h0
 have hiv:¬eP n k t->p<=bT n k t/\bT n k t+p+1<n:=fun hin=>by
  have h1:¬t<k 0:=fun h=>hin (.inl h)
  have h2:¬k (n-1)<t:=fun h=>hin (.inr h)
  exact(h.En (by grind) (by grind)).2
 have hp1:=h.p1
 have hl:=h.len
 refine ax.tY hT Av hm [1,1,1,1,1,0,1] (i:=0) (y:=wG) (z:=part Co [1,1,1,1,1,1]) ag ag ag Tu.dst hk (f1:=[26,30,36,43]) 60 oo 3 (fun d:Nat=>vU n k p (bT n k t) d) (fun d=>[(2,kH (d+1) (vB k (bT n k t) t d) fun _=>SB d),(0,tP t sK)])
  (fun d=>d<=p/\¬eP n k t) (fun d=>d=p/\¬eP n k t) (fun d=>p-d) (oP zV oo (FJ n k p t)) ⟨_,T5,?_⟩ (fun d ⟨hd,hin⟩=>?_) (fun d ⟨hd,hin⟩=>?_) (fun v s' hv hs'=>hv.fin hs')
 ·simp only[ah.all,az,ye,bne_iff_ne,ne_eq,bne_eq_false_iff_eq,aZ,bk,cond_false,aW]
  refine⟨⟨aa,bY aU,aU,h,aa,hn⟩,fun hout=>?_,fun hin=>?_⟩
  ·have hout:eP n k t:=by
    unfold fE at hout
    by_cases ho:eP n k t
    ·exact ho
    ·rw[if_neg ho]at hout;exact absurd rfl hout
   refine⟨[.int .i64 0,.nil,.int .i64 7],?_,Uh hout⟩
   unfold fE
   rw[if_pos hout]
   kernel_rfl
  ·have hin:¬eP n k t:=fun ho=>by unfold fE at hin;rw[if_pos ho]at hin;omega
   have hii:fj n k t=bT n k t:=by unfold fj;rw[if_neg hin]
   have hv:=hiv hin
   simp only[hii,aZ,bk]
   (repeat' with_reducible first|refine And.intro ?_ ?_|intro _)
   all_goals first|omega|(exfalso;omega)|exact absurd ‹false=true› (by decide)|exact absurd ‹true=false› (by decide)|skip
   refine⟨0,⟨aa,hin⟩,[(0,0),(2,131072)],rfl,rfl,rfl,bL rfl rfl rfl (fun i hi=>?_) (aB trivial)⟩
   have:i=0:=aa
   subst this
   exact .inr ⟨rfl,bM rfl (by have:=rH (d:=0);exact Nat.le_trans (by decide) this)⟩
 ·have hv:=hiv hin
  refine ax.nP hT Av hm (y:=wG) (x1:=tK) (zb:=part wG [1,1]) [1,0] (j:=1) ag ag ag ag hk (f1:=[48]) 60 oo 3 (fun _:Unit=>vU n k p (bT n k t) d) (fun _=>[(2,kH (d+1) (vB k (bT n k t) t d) fun _=>SB d),(0,tP t sK)]) (fun _=>d+1<=p) ⟨_,WW,?_⟩ (fun _ hd'=>?_)
  ·simp only[ah.all,az,aZ,bk]
   have re:cP [] ([aq 3 n fun i=>rat (k i) sK,int i64 p,ptr 0 0 3 0 [],int i64 (bT n k t),own 2 3 0 (d+1),int i64 ((d+1:Nat):Int),int i64 0,nil,int i64 0],[(2,ak.mk true true 3 (d+1) fun i=>rat (vB k (bT n k t) t d i) (SB d)),((0:Nat),aJ fun x=>rat t sK)]) (vU n k p (bT n k t) d) [(2,kH (d+1) (vB k (bT n k t) t d) fun _=>SB d),(0,tP t sK)] 3:=
    ⟨[(0,0),(2,2)],rfl,rfl,rfl,bL rfl rfl rfl (fun i hi=>cL rfl rfl) (aB trivial)⟩
   exact⟨fun h1=>⟨(),aa,re⟩,fun h1 s' hs'=>⟨rfl,d,⟨aa,hin⟩,re.le hs' hk⟩⟩
  refine ax.kG hT Av hm (x:=tK) (z:=part tK [1,1]) [1,0,1] (i:=2) (y:=part tK [1,0,1,0,0]) ag ag ag ag hk (f1:=[]) (f2:=[57]) 60 zJ 4 (fun j:Nat=>Ig n k p (bT n k t) d j)
   (fun j=>[(3,kH (d+2) (mN k (bT n k t) t d j) (jK d j)),(2,kH (d+1) (vB k (bT n k t) t d) fun _=>SB d),(0,tP t sK)]) (fun j=>j<=d+1) (fun j=>j=d+1) (fun j=>d+1-j) (fun _=>False) ⟨_,aky,?_⟩ (fun j hj=>⟨_,ajY,?_⟩) (fun j hj=>?_) (fun _ _ h=>h.elim)
  ·simp only[ah.all,az]
   rw[show(((d+1:Nat):Int)+1).toNat=d+2 by omega]
   refine⟨⟨aa,aa⟩,0,aa,[(0,0),(2,2),(3,8195)],rfl,rfl,rfl,bL rfl rfl rfl (fun i hi=>?_) (bL rfl rfl rfl (fun i hi=>cL rfl rfl) (aB trivial))⟩
   refine .inr ⟨rfl,bM ?_ ?_⟩
   ·unfold mN Ap;rw[if_neg aa];split<;>rfl
   ·unfold jK HB;rw[if_neg aa];split<;>omega
  ·have hF:=Ao
   have h1:=rH (d:=d)
   have h2:=sP (d:=d) aa
   have h3:=sP (d:=d+1) aa
   have h5:sV=268435456:=rfl
   have s0:jK d j j=HB d:=by unfold jK;rw[if_neg aa,if_pos rfl]
   have s1:jK d j (j+1)=1:=by unfold jK;rw[if_neg aa,if_neg aa]
   have e0:((bT n k t:Int)-((d+1:Nat):Int)+1+(j:Int)).toNat=bT n k t-d+j:=aa
   have e1:((bT n k t:Int)-((d+1:Nat):Int)+1+(j:Int)+((d+1:Nat):Int)).toNat=bT n k t-d+j+(d+1):=aa
   have e2:((j:Int)+1).toNat=j+1:=aa
   simp only[ah.all,az,aZ,bk,aW,Nat.add_zero,e0,e1,e2,Oj]
   have hjj:(j==j+1)=false:=by simp
   refine⟨fun h4=>?_,fun h4=>⟨rfl,j,aa,[(0,0),(2,2),(3,3)],rfl,rfl,rfl,bL rfl rfl rfl (fun i hi=>cL rfl rfl) (bL rfl rfl rfl (fun i hi=>cL rfl rfl) (aB trivial))⟩⟩
   (repeat' with_reducible refine And.intro ?_ ?_)
   all_goals first|omega|(rw[s1];omega)|(rw[hjj,cond_false,s0];unfold HB;omega)|skip
   refine⟨j+1,aa,by dsimp only;omega,[(0,0),(2,2),(3,3)],rfl,rfl,rfl,bL rfl rfl rfl (fun x hx=>YR aa) (bL rfl rfl rfl (fun i hi=>cL rfl rfl) (aB trivial))⟩
  ·subst hj
   refine ax.tail (fun s' hh=>by have:=hh.1;omega) (aI.bA hT Av hm 60 oo Yf ag ?_)
   simp only[ah.all,az]
   refine⟨aa,fun s' hs'=>⟨d+1,⟨hd',hin⟩,by dsimp only;omega,cP.le ⟨[(0,0),(2,3)],rfl,rfl,rfl,bL rfl rfl rfl (fun x hx=>?_) (aB trivial)⟩ hs' hk⟩⟩
   refine .inr ⟨rfl,bM ?_ ?_⟩
   ·unfold mN
    by_cases hlt:x<d+1
    ·rw[if_pos hlt]
    ·have:x=d+1:=aa
     subst this
     rw[if_neg aa,if_pos rfl,vB,if_neg (show¬d+1<=d by omega),Rat.add_zero];rfl
   ·have h1:=yz (d:=d)
    have h2:=rH (d:=d)
    have hF:=Ao
    show _<=SB (d+1)
    unfold jK HB
    split
    ·omega
    ·split<;>omega
 ·subst hd
  refine ax.j3 ((aI.fin hT Av hm 60 akv ag ?_).mono fun _ _ h=>.inl h)
  simp only[ah.all,az]
  exact⟨by have:=hiv hin;omega,akJ hin fun j _=>fK (sP hp6)⟩
theorem adJ:aT P s9 EM (aA EM):=aY Proofs.Tryz.func104 ag ag ag
theorem Xp:aT P F6 CA (aA CA):=aY Proofs.Tryz.func93 ag ag ag
def OW:Spec:=cN Pw (fun a=>FJ a.1.1 a.1.2 a.2.1.toNat a.2.2.1) fun a=>[Kn a.1.1 a.2.1.toNat a.1.2,0<=a.2.1,a.2.1<=6,a.1.1<2^40]
theorem abo:∀K args pre r,OW K args pre=some r->aE P Ca K args pre r:=cy fun⟨⟨n,k⟩,p,t,_⟩ K hn=>by
 obtain⟨h1,h2,h3,h4⟩:=hn
 have h3:p<=6:=h3
 have:=Yk h1 (by simp only;omega) h4 K (t:=t)
 rw[Int.toNat_of_nonneg h2]at this
 exact this
def pF:Spec:=cN (kC (kL sK) (kC kI kN)) (fun a=>.int .i64 ((a.1.1:Int)-a.2.1-1)) fun a=>[a.1.1<2^40,-2^40<a.2.1,a.2.1<2^40]
theorem aaB {n:Nat} {k:Nat->Rat} {p:Int}:bW T [nG] [] 60 EM (aA EM) ⟨aQ 0 [ls k n,.int .i64 p],[],0⟩=
  let c3:Int:=(↑n:Int)-p;let c1:Int:=(2:Int)^63;let c2:Int:=c3-(1:Int);some (aj [-c1<=c3/\c3<c1,-c1<=c2/\c2<c1] (leaf ret [int i64 c2])):=ag
theorem Y9 {n:Nat} {k:Nat->Rat} {p:Int}:bW T [nG] [] 60 CA (aA CA) ⟨aQ 0 [ls k n,.int .i64 p],[],0⟩=
  let c3:Int:=(↑n:Int)-p;let c1:Int:=(2:Int)^63;let c2:Int:=c3-(1:Int);some (aj [-c1<=c3/\c3<c1,-c1<=c2/\c2<c1] (leaf ret [int i64 c2])):=ag
theorem zA:∀K args pre r,pF K args pre=some r->aE P s9 K args pre r:=cy fun⟨⟨n,k⟩,p,_⟩ K hn=>by
 obtain⟨h1,h2,h3⟩:=hn
 have h3:p<2^40:=h3
 simp only at h1 h2
 refine cj (r:=aK (.int .i64 ((n:Int)-p-1)) []) hT (cZ bO) hm adJ rfl aX rfl 60 aaB (fun _=>?_) K []
 simp only[ah.all,az]
 exact⟨aa,.refl _⟩
theorem QS:∀K args pre r,pF K args pre=some r->aE P F6 K args pre r:=cy fun⟨⟨n,k⟩,p,_⟩ K hn=>by
 obtain⟨h1,h2,h3⟩:=hn
 have h3:p<2^40:=h3
 simp only at h1 h2
 refine cj (r:=aK (.int .i64 ((n:Int)-p-1)) []) hT (cZ bO) hm Xp rfl aX rfl 60 Y9 (fun _=>?_) K []
 simp only[ah.all,az]
 exact⟨aa,.refl _⟩
abbrev zO:ak:=⟨false,true,3,1,fun _=>.rat 0 1⟩
abbrev sU:Nat:=4294967296
theorem NY {n:Nat} {k:Nat->Rat} {t:Rat} (h:fE n k t≠0):eP n k t:=by
 unfold fE at h
 by_cases ho:eP n k t
 ·exact ho
 ·rw[if_neg ho]at h;exact absurd rfl h
theorem Sk {n:Nat} {k:Nat->Rat} {t:Rat} (h:fE n k t=0):¬eP n k t:=fun ho=>by unfold fE at h;rw[if_pos ho]at h;omega
theorem Kn.Hf {n p:Nat} {k:Nat->Rat} (h:Kn n p k) {t:Rat} (hin:¬eP n k t):p<=bT n k t/\bT n k t+p+1<n:=by
 have h1:¬t<k 0:=fun h=>hin (.inl h)
 have h2:¬k (n-1)<t:=fun h=>hin (.inr h)
 exact(h.En (by grind) (by grind)).2
def bw (k:Nat->Rat) (t:Rat):Nat->Nat
 |0=>0
 |i+1=>bw k t i+if k i=t then 1 else 0
def fk (k:Nat->Rat) (i:Nat):Prop:=i=0\/k i≠k (i-1)
instance {k:Nat->Rat} {i:Nat}:Decidable (fk k i):=inferInstanceAs (Decidable (i=0\/k i≠k (i-1)))
def bn (k:Nat->Rat):Nat->Nat
 |0=>0
 |i+1=>bn k i+if fk k i then 1 else 0
def bH (k:Nat->Rat):Nat->Nat->Rat
 |0=>fun _=>0
 |i+1=>if fk k i then jm (bH k i) (bn k i) (k i)else bH k i
theorem EV {k:Nat->Rat} {t:Rat}:∀{n:Nat},bw k t n<=n
 |0=>Nat.le_refl _
 |n+1=>by
  have:=EV (k:=k) (t:=t) (n:=n)
  unfold bw;split<;>omega
theorem mW {k:Nat->Rat}:∀{n:Nat},bn k n<=n
 |0=>Nat.le_refl _
 |n+1=>by
  have:=mW (k:=k) (n:=n)
  unfold bn;split<;>omega
theorem tL {k:Nat->Rat}:∀{n:Nat},0<bn k (n+1)/\bH k (n+1) 0=k 0/\bH k (n+1) (bn k (n+1)-1)=k n
 |0=>by simp[bn,bH,fk,jm]
 |n+1=>by
  obtain⟨h1,h2,h3⟩:=tL (k:=k) (n:=n)
  rw[bn,bH]
  by_cases h:fk k (n+1)
  ·rw[if_pos h,if_pos h]
   refine⟨by omega,by rw[js (by omega)];exact h2,?_⟩
   rw[show bn k (n+1)+1-1=bn k (n+1) by omega,pz]
  ·rw[if_neg h,if_neg h]
   refine⟨by omega,h2,?_⟩
   show bH k (n+1) (bn k (n+1)-1)=_
   rw[h3]
   unfold fk at h
   have:k (n+1)=k (n+1-1):=by
    by_cases e:k (n+1)=k (n+1-1)
    ·exact e
    ·exact absurd (.inr e) h
   rw[this];rfl
theorem I7 {k:Nat->Rat}:∀{n j:Nat},j<bn k n->∃i,i<n/\bH k n j=k i
 |0,j,h=>by simp[bn]at h
 |n+1,j,h=>by
  rw[bH]
  rw[bn]at h
  by_cases hn:fk k n
  ·rw[if_pos hn]at h ⊢
   by_cases he:j=bn k n
   ·subst he;exact⟨n,by omega,pz⟩
   ·obtain⟨i,h1,h2⟩:=I7 (k:=k) (n:=n) (j:=j) (by omega)
    exact⟨i,by omega,by rw[js he];exact h2⟩
  ·rw[if_neg hn]at h ⊢
   obtain⟨i,h1,h2⟩:=I7 (k:=k) (n:=n) (j:=j) (by omega)
   exact⟨i,by omega,h2⟩
def sR (n:Nat) (k:Nat->Rat):Prop:=∀i,i+1<n->k i<=k (i+1)
def lG (n:Nat) (k:Nat->Rat) (p:Nat) (t:Rat):Prop:=((t=k 0\/t=k (n-1))/\bw k t n≠p+1)\/(¬(t=k 0\/t=k (n-1))/\p<bw k t n)
instance {n:Nat} {k:Nat->Rat} {p:Nat} {t:Rat}:Decidable (lG n k p t):=inferInstanceAs (Decidable (((t=k 0\/t=k (n-1))/\bw k t n≠p+1)\/(¬(t=k 0\/t=k (n-1))/\p<bw k t n)))
def rX (n:Nat) (k:Nat->Rat) (p:Nat):Prop:=sR n k/\k 0≠k (n-1)/\∀j,j<bn k n->¬lG n k p (bH k n j)
open Classical in
def gR (n:Nat) (k:Nat->Rat) (p:Int):Int:=
 if p<1\/6<p then 1 else if(n:Int)<2*p+2 then 5 else if 40<(n:Int)-p-1 then 2 else if rX n k p.toNat then 0 else 5
theorem Tz {k:Nat->Rat} {t:Rat} {a b:Nat} (hab:a<=b):∀{n:Nat},(∀i,i<n->k i=t->a<=i/\i<b)->bw k t n<=min n b-min n a
 |0,_=>by simp[bw]
 |n+1,h=>by
  have ih:=Tz (k:=k) (t:=t) hab (n:=n) fun i hi=>h i (by omega)
  rw[bw]
  split
  ·rename_i e
   have:=h n (by omega) e
   omega
  ·omega
theorem Im {k:Nat->Rat} {t:Rat} {a b:Nat} (hab:a<=b):∀{n:Nat},(∀i,i<n->(k i=t↔a<=i/\i<b))->bw k t n=min n b-min n a
 |0,_=>by simp[bw]
 |n+1,h=>by
  have ih:=Im (k:=k) (t:=t) hab (n:=n) fun i hi=>h i (by omega)
  rw[bw]
  have:=h n (by omega)
  split
  ·rename_i e
   have:=this.1 e
   omega
  ·rename_i e
   have:¬(a<=n/\n<b):=fun h=>e (this.2 h)
   omega
theorem least {q:Nat->Prop} [DecidablePred q]:∀{n:Nat},q n->∃a,a<=n/\q a/\∀i,i<a->¬q i
 |0,h=>⟨0,Nat.le_refl _,h,fun i hi=>by omega⟩
 |n+1,h=>by
  by_cases h2:∃i,i<n+1/\q i
  ·obtain⟨i,hi,hq⟩:=h2
   obtain⟨a,h3,h4,h5⟩:=least_lt hi hq
   exact⟨a,by omega,h4,h5⟩
  ·exact⟨n+1,Nat.le_refl _,h,fun i hi hq=>h2 ⟨i,hi,hq⟩⟩
where
 least_lt {q:Nat->Prop} [DecidablePred q]:∀{n i:Nat},i<n->q i->∃a,a<n/\q a/\∀i,i<a->¬q i
 |0,i,h,_=>by omega
 |n+1,i,h,hq=>by
  by_cases h2:∃j,j<n/\q j
  ·obtain⟨j,hj,hq⟩:=h2
   obtain⟨a,h3,h4,h5⟩:=least_lt hj hq
   exact⟨a,by omega,h4,h5⟩
  ·have:i=n:=by
    by_cases e:i=n
    ·exact e
    ·exact absurd ⟨i,by omega,hq⟩ h2
   subst this
   exact⟨i,h,hq,fun j hj hq=>h2 ⟨j,hj,hq⟩⟩
theorem Kn.rX {n p:Nat} {k:Nat->Rat} (h:Kn n p k):rX n k p:=by
 have hp:=h.p1
 have hl:=h.len
 have hw:k p<k (p+1):=by
  have:=h.mult 1 (by omega) (by omega)
  rw[h.first 1 (by omega),show 1+p=p+1 by omega]at this
  rw[h.first p (by omega)];exact this
 have hw2:k (n-p-2)<k (n-p-1):=by
  by_cases he:n=2*p+2
  ·have e1:n-p-2=p:=by omega
   have e2:n-p-1=p+1:=by omega
   rw[e1,e2];exact hw
  ·have:=h.mult (n-p-2) (by omega) (by omega)
   rw[h.last (n-p-2+p) (by omega) (by omega),<-h.last (n-p-1) (by omega) (by omega)]at this
   exact this
 have m:∀{i j},i<=j->j<n->k i<=k j:=fun hi hj=>gk h.sorted hi hj
 have h0l:k 0<k (n-1):=by
  have a:=m (i:=p+1) (j:=n-1) (by omega) (by omega)
  have b:=h.first p (Nat.le_refl _)
  grind
 refine⟨h.sorted,by grind,fun j hj=>?_⟩
 obtain⟨i,hi,e⟩:=I7 hj
 rw[e]
 unfold lG
 by_cases h0:k i=k 0
 ·have:bw k (k i) n=p+1:=by
   rw[Im (a:=0) (b:=p+1) (by omega) (n:=n) fun x hx=>?_]
   ·omega
   ·rw[h0]
    constructor
    ·intro ex
     refine⟨by omega,?_⟩
     by_cases hx2:x<p+1
     ·exact hx2
     ·have:=m (i:=p+1) (j:=x) (by omega) hx
      have b:=h.first p (Nat.le_refl _)
      grind
    ·intro hx2;exact h.first x (by omega)
  rw[this]
  simp[h0]
 ·by_cases h1:k i=k (n-1)
  ·have:bw k (k i) n=p+1:=by
    rw[Im (a:=n-p-1) (b:=n) (by omega) (n:=n) fun x hx=>?_]
    ·omega
    ·rw[h1]
     constructor
     ·intro ex
      refine⟨?_,hx⟩
      by_cases hx2:n-p-1<=x
      ·exact hx2
      ·have:=m (i:=x) (j:=n-p-2) (by omega) (by omega)
       have b:=h.last (n-p-1) (by omega) (by omega)
       grind
     ·intro hx2;exact h.last x (by omega) hx
   rw[this]
   simp[h1]
  ·obtain⟨a,ha,e,hlt⟩:=least (q:=fun x=>k x=k i) (n:=i) rfl
   have ha0:p<a:=by
    by_cases hx:p<a
    ·exact hx
    ·have:=h.first a (by omega)
     rw[this]at e;exact absurd e.symm h0
   have hal:a+p+1<n:=by
    by_cases hx:a+p+1<n
    ·exact hx
    ·have:=h.last a (by omega) (by omega)
     rw[this]at e;exact absurd e.symm h1
   have hm:=h.mult a (by omega) hal
   have:bw k (k i) n<=min n (a+p)-min n a:=by
    refine Tz (by omega) fun x hx ex=>⟨?_,?_⟩
    ·by_cases hx2:a<=x
     ·exact hx2
     ·exact absurd ex (hlt x (by omega))
    ·by_cases hx2:x<a+p
     ·exact hx2
     ·have:=m (i:=a+p) (j:=x) (by omega) hx
      grind
   intro hb
   rcases hb with⟨h2,_⟩|⟨_,h2⟩
   ·exact h2.elim h0 h1
   ·omega
theorem Kn.OI {n p:Nat} {k:Nat->Rat} (h:Kn n p k) (hp6:p<=6) (hn:n<=p+41):gR n k p=0:=by
 have hp:=h.p1
 have hl:=h.len
 unfold gR
 rw[if_neg (by omega),if_neg (by omega),if_neg (by omega),if_pos (by rw[Int.toNat_natCast];exact h.rX)]
def iT (k:Nat->Rat) (l i:Nat):Rat:=if i<bn k l then bH k l i else k i
theorem H8 {k:Nat->Rat}:∀{b:Nat},(∀i,i<b->fk k i)->bn k b=b/\∀i,i<b->bH k b i=k i
 |0,_=>⟨rfl,fun i hi=>by omega⟩
 |b+1,h=>by
  obtain⟨h1,h2⟩:=H8 (k:=k) (b:=b) fun i hi=>h i (by omega)
  rw[bn,bH,if_pos (h b (by omega)),if_pos (h b (by omega)),h1]
  refine⟨rfl,fun i hi=>?_⟩
  unfold jm
  split
  ·rename_i e;rw[e]
  ·exact h2 i (by omega)
theorem ag5 {k:Nat->Rat} {b:Nat} (h:∀i,i<b->fk k i) (hb:¬fk k b):bn k (b+1)=b/\∀i,iT k (b+1) i=k i:=by
 obtain⟨h1,h2⟩:=H8 h
 have e:bn k (b+1)=b:=by rw[bn,if_neg hb,h1];rfl
 refine⟨e,fun i=>?_⟩
 unfold iT
 rw[e,bH,if_neg hb]
 split
 ·exact h2 i ‹_›
 ·rfl
theorem R9 {k:Nat->Rat} {n:Nat} (h:∀i,i<n->fk k i):bn k n=n/\∀i,i<n->bH k n i=k i:=H8 h
theorem ahw {k:Nat->Rat} {l i:Nat} (h:fk k l) (hl:bn k l<=l):iT k (l+1) i=if i=bn k l then k l else iT k l i:=by
 unfold iT
 rw[bn,bH,if_pos h,if_pos h]
 unfold jm
 by_cases h1:i=bn k l
 ·subst h1
  rw[if_pos (by omega),if_pos rfl,if_pos rfl]
 ·rw[if_neg h1]
  by_cases h2:i<bn k l
  ·rw[if_pos (by omega),if_pos h2,if_neg h1]
  ·rw[if_neg (by omega),if_neg h2,if_neg h1]
theorem ag9 {k:Nat->Rat} {l i:Nat} (h:¬fk k l):bn k (l+1)=bn k l/\iT k (l+1) i=iT k l i:=by
 unfold iT
 rw[bn,bH,if_neg h,if_neg h]
 exact⟨rfl,rfl⟩
theorem Q1 {k:Nat->Rat} {l:Nat} (h:fk k l):bn k (l+1)=bn k l+1:=by rw[bn,if_pos h]
theorem Jj {k:Nat->Rat} {l:Nat} (h:¬fk k l):bn k (l+1)=bn k l:=by rw[bn,if_neg h];rfl
theorem Nt {k:Nat->Rat} {l i:Nat} (h:bn k l<=i):iT k l i=k i:=by unfold iT;rw[if_neg (by omega)]
theorem LP {k:Nat->Rat} {b:Nat} (hb:¬fk k b):∀{l:Nat},b<l->bn k l<l
 |0,h=>by omega
 |l+1,h=>by
  by_cases he:l=b
  ·subst he;rw[Jj hb];have:=mW (k:=k) (n:=l);omega
  ·have:=LP hb (l:=l) (by omega)
   have h2:=mW (k:=k) (n:=l)
   rw[bn];split<;>omega
theorem S7 {k:Nat->Rat} {i:Nat}:fk k (i+1)↔k (i+1)≠k i:=by
 unfold fk
 simp
open Classical in
theorem X6 {n:Nat} {k:Nat->Rat} {p:Int} (h:p<1\/6<p):gR n k p=1:=if_pos h
theorem adk {n:Nat} {k:Nat->Rat} {p:Int} (h:¬(p<1\/6<p)) (h2:(n:Int)<2*p+2):gR n k p=5:=by unfold gR;rw[if_neg h,if_pos h2]
theorem aj6 {n:Nat} {k:Nat->Rat} {p:Int} (h:¬(p<1\/6<p)) (h2:¬(n:Int)<2*p+2) (h3:40<(n:Int)-p-1):gR n k p=2:=by unfold gR;rw[if_neg h,if_neg h2,if_pos h3]
theorem abi {n:Nat} {k:Nat->Rat} {p:Int} (h:¬(p<1\/6<p)) (h2:¬(n:Int)<2*p+2) (h3:¬40<(n:Int)-p-1) (h4:rX n k p.toNat):gR n k p=0:=by unfold gR;rw[if_neg h,if_neg h2,if_neg h3,if_pos h4]
theorem Ik {n:Nat} {k:Nat->Rat} {p:Int} (h:¬(p<1\/6<p)) (h2:¬(n:Int)<2*p+2) (h3:¬40<(n:Int)-p-1) (h4:¬rX n k p.toNat):gR n k p=5:=by unfold gR;rw[if_neg h,if_neg h2,if_neg h3,if_neg h4]
open Go Go.Am.N AV ah au IntKind
theorem ahZ:aT P uV Fu (aA Fu):=aY Proofs.Tryz.func84 ag ag ag
theorem Y2:aT P yI Dy (aA Dy):=aY Proofs.Tryz.func89 ag ag ag
theorem JZ:aT P tr CP (aA CP):=aY Proofs.Tryz.func176 ag ag ag
abbrev y9:List Nat:=[3,5,8,9,10]
abbrev xU (n:Nat) (k:Nat->Rat) (c i:Nat):List AV:=[.ptr 0 0 3 0 [],.int .i64 c,ls k n,.int .i64 n,.int .i64 i]
abbrev zK:Code:=aA Fu
abbrev sJ:Nat:=4000
abbrev gj (m:Nat) (k:Nat->Rat):ak:=⟨true,true,3,m,fun i=>.rat (k i) sK⟩
abbrev zc:List Nat:=[3,9,10,11]
abbrev Ku (n:Nat) (k:Nat->Rat) (i:Nat):List AV:=[.own 0 3 0 i,bq k n sJ,.int .i64 n,.int .i64 i]
abbrev od:Code:=aA CP
abbrev zn:List Nat:=[0,3,5,6]
abbrev ze (n:Nat) (k:Nat->Rat) (c i:Nat):List AV:=[ls k n,.ptr 0 0 3 0 [],.int .i64 c,.int .i64 i]
abbrev zB:Code:=aA Dy
theorem aco {n:Nat} {k:Nat->Rat} {t:Rat}:aH T gP [] 60 y9 (before zK [1,1,0,1]) ⟨aQ 0 [ls k n,.rat t sK],[],0⟩=
  some (leaf normal ([ptr 0 0 (aV (rat t sK)).size 0 [],int i64 0,aq 3 n fun i=>rat (k i) 4096,int i64 (↑n:Int),int i64 0],[(0,ak.mk false true (aV (rat t sK)).size 1 fun x=>rat t 4096)])):=ag
theorem YB {n c i:Nat} {k:Nat->Rat} {t:Rat}:aH T gP [11,16] 60 y9 [part zK [1,1,0,1,0,0]] ⟨aC y9 (xU n k c i),[(0,tP t sK)],1⟩=
  let c10:Int:=(↑n:Int);let c9:Prop:=0<1;let c8:Int:=(↑c:Int)+(1:Int);let c7:AV:=aq 3 n fun i=>rat (k i) 4096;let c5:Int:=(↑i:Int);let c4:AV:=ptr 0 0 3 0 [];let c2:Int:=(2:Int)^63;let c1:Nat×ak:=((0:Nat),aJ fun x=>rat t 4096);let c6:Int:=c5+(1:Int);let c3:List AV:=[c7,int i64 c10,int i64 c6];some (fork (decide (c5<c10)) (aj [(0:Int)<=c5/\c5.toNat<n,c9] (aj [c9,c9] (fork (decide (k c5.toNat=t)) (aj [-c2<=c8/\c8<c2] (aj [-c2<=c6/\c6<c2] (leaf normal (c4::int i64 c8::c3,[c1])))) (aj [-c2<=c6/\c6<c2] (leaf normal (c4::int i64 (↑c:Int)::c3,[c1])))))) (leaf (exit 0) ([c4,int i64 (↑c:Int),c7,int i64 c10,int i64 c5],[c1]))):=ag
theorem acE {n c i:Nat} {k:Nat->Rat} {t:Rat}:cw T gP [] 60 Fu [part zK [1,1,1]] ⟨aC y9 (xU n k c i),[(0,tP t sK)],1⟩=
  some (leaf ret [int i64 (↑c:Int)]):=ag
theorem aaj {n:Nat} {k:Nat->Rat} {t:Rat}:aH T jW [] 60 zn (before zB [1,1,0,1]) ⟨aQ 0 [ls k n,.rat t sK],[],0⟩=
  some (leaf normal ([aq 3 n fun i=>rat (k i) 4096,ptr 0 0 (aV (rat t sK)).size 0 [],int i64 0,int i64 0],[(0,ak.mk false true (aV (rat t sK)).size 1 fun x=>rat t 4096)])):=ag
theorem aen {n c i:Nat} {k:Nat->Rat} {t:Rat}:aH T jW [10,18] 60 zn [part zB [1,1,0,1,0,0]] ⟨aC zn (ze n k c i),[(0,tP t sK)],1⟩=
  let c7:Int:=(↑c:Int)+(1:Int);let c6:Int:=(↑i:Int);let c5:AV:=ptr 0 0 3 0 [];let c4:AV:=aq 3 n fun i=>rat (k i) 4096;let c3:Int:=(2:Int)^63;let c1:Nat×ak:=((0:Nat),aJ fun x=>rat t 4096);let c2:Int:=c6+(1:Int);some (fork (decide (c6<(↑n:Int))) (aj [(0:Int)<=c6/\c6.toNat<n,(0:Nat)<1] (fork (decide (k c6.toNat=t)) (aj [-c3<=c7/\c7<c3] (aj [-c3<=c2/\c2<c3] (leaf normal ([c4,c5,int i64 c7,int i64 c2],[c1])))) (aj [-c3<=c2/\c2<c3] (leaf normal ([c4,c5,int i64 (↑c:Int),int i64 c2],[c1]))))) (leaf (exit 0) ([c4,c5,int i64 (↑c:Int),int i64 c6],[c1]))):=ag
theorem T0 {n c i:Nat} {k:Nat->Rat} {t:Rat}:cw T jW [] 60 Dy [part zB [1,1,1]] ⟨aC zn (ze n k c i),[(0,tP t sK)],1⟩=
  some (leaf ret [int i64 (↑c:Int)]):=ag
theorem aj4 {n:Nat} {k:Nat->Rat}:aH T gP [] 60 zc (before od [1,1,0,1]) ⟨aQ 0 [bq k n sJ],[],0⟩=
  let c1:Int:=(↑n:Int);some (aj [(0:Int)<=(0:Int)/\(0:Int)<=c1/\c1<=(2:Int)^47/\c1*(↑(56:Nat):Int)<=(2:Int)^47] (leaf normal ([own 12288 3 0 0,aq 3 n fun i=>rat (k i) 4000,int i64 c1,int i64 0],[(12288,ak.mk true true 3 0 fun x=>rat 0 1)]))):=ag
theorem ajI {n i:Nat} {k:Nat->Rat}:aH T gP [12] 60 zc [part od [1,1,0,1,0,0]] ⟨aC zc (Ku n k i),[(0,gj i k)],1⟩=
  let c4:Int:=(↑n:Int);let c2:AV:=aq 3 n fun i=>rat (k i) 4000;let c1:Int:=(↑i:Int);let c3:Int:=c1+(1:Int);some (fork (decide (c1<c4)) (aj [(0:Int)<=c1/\c1.toNat<n,(0:Nat)<1] (aj [(0:Nat)<1,(1:Nat)*3<=2^24,(i+1)*((56:Nat)+1)*2<=2^47] (aj [-(2:Int)^63<=c3/\c3<(2:Int)^63] (leaf normal ([own 40961 3 0 (i+1),c2,int i64 c4,int i64 c3],[(40961,ak.mk true true 3 (i+1) fun i_1=>if i_1<i then rat (k i_1) sK else nth [rat (k c1.toNat+0) (sJ+1+1)] (rat 0 1) (i_1-i+0))]))))) (leaf (exit 0) ([own 0 3 0 i,c2,int i64 c4,int i64 c1],[(0,ak.mk true true 3 i fun i=>rat (k i) 4096)]))):=ag
theorem aeo {n i:Nat} {k:Nat->Rat}:aH T gP [] 60 [2] [part od [1,1,1]] ⟨aC zc (Ku n k i),[(0,gj i k)],1⟩=
  some (leaf ret ([own 0 3 0 i],[(0,ak.mk true true 3 i fun i=>rat (k i) 4096)])):=ag
theorem RE {k:Nat->Rat} {t:Rat} {i:Nat} (h:k i=t):bw k t (i+1)=bw k t i+1:=by rw[bw,if_pos h]
theorem SK {k:Nat->Rat} {t:Rat} {i:Nat} (h:¬k i=t):bw k t (i+1)=bw k t i:=by rw[bw,if_neg h];rfl
theorem aeN {n:Nat} {k:Nat->Rat} {t:Rat} (hn:n<2^40) (K:Nat):aE P uV K [ls k n,.rat t sK] [] (aK (.int .i64 (bw k t n)) []):=by
 refine fI (r:=aK (.int .i64 (bw k t n)) []) hT lZ hm ahZ rfl aX rfl [1,1,0,1] (i:=0) (y:=part zK [1,1,0,1,0,0]) (z:=part zK [1,1,1]) ag ag ag (f1:=[]) (f2:=[11,16]) (f3:=[]) 60 y9 1
  (fun i:Nat=>xU n k (bw k t i) i) (fun _=>[(0,tP t sK)]) (fun i=>i<=n) (fun i=>i=n) (fun i=>n-i) (fun _=>⟨⟨_,aco,?_⟩,fun i hi=>⟨_,YB,?_⟩,fun i hi=>⟨_,acE,?_⟩⟩) K []
 ·simp only[ah.all,az]
  exact⟨0,Nat.zero_le _,[(0,0)],rfl,rfl,rfl,aB trivial⟩
 ·have h1:=EV (k:=k) (t:=t) (n:=i)
  simp only[ah.all,az,aZ,bk,aW,Nat.add_zero]
  refine⟨fun h2=>⟨aa,aa,fun h3=>⟨aa,aa,i+1,aa,by dsimp only;omega,[(0,0)],rfl,?_,rfl,aB trivial⟩,fun h3=>⟨aa,i+1,aa,by dsimp only;omega,[(0,0)],rfl,?_,rfl,aB trivial⟩⟩,fun h2=>⟨rfl,i,aa,[(0,0)],rfl,rfl,rfl,aB trivial⟩⟩
  ·show _=(xU n k (bw k t (i+1)) (i+1)).map _
   rw[RE h3];rfl
  ·show _=(xU n k (bw k t (i+1)) (i+1)).map _
   rw[SK h3];rfl
 ·subst hi
  simp only[ah.all,az]
  exact .refl _
theorem afN {n:Nat} {k:Nat->Rat} {t:Rat} (hn:n<2^40) (K:Nat):aE P yI K [ls k n,.rat t sK] [] (aK (.int .i64 (bw k t n)) []):=by
 refine fI (r:=aK (.int .i64 (bw k t n)) []) hT Ex hm Y2 rfl aX rfl [1,1,0,1] (i:=0) (y:=part zB [1,1,0,1,0,0]) (z:=part zB [1,1,1]) ag ag ag (f1:=[]) (f2:=[10,18]) (f3:=[]) 60 zn 1
  (fun i:Nat=>ze n k (bw k t i) i) (fun _=>[(0,tP t sK)]) (fun i=>i<=n) (fun i=>i=n) (fun i=>n-i) (fun _=>⟨⟨_,aaj,?_⟩,fun i hi=>⟨_,aen,?_⟩,fun i hi=>⟨_,T0,?_⟩⟩) K []
 ·simp only[ah.all,az]
  exact⟨0,Nat.zero_le _,[(0,0)],rfl,rfl,rfl,aB trivial⟩
 ·have h1:=EV (k:=k) (t:=t) (n:=i)
  simp only[ah.all,az,aZ,bk,aW,Nat.add_zero]
  refine⟨fun h2=>⟨aa,fun h3=>⟨aa,aa,i+1,aa,by dsimp only;omega,[(0,0)],rfl,?_,rfl,aB trivial⟩,fun h3=>⟨aa,i+1,aa,by dsimp only;omega,[(0,0)],rfl,?_,rfl,aB trivial⟩⟩,fun h2=>⟨rfl,i,aa,[(0,0)],rfl,rfl,rfl,aB trivial⟩⟩
  ·show _=(ze n k (bw k t (i+1)) (i+1)).map _
   rw[RE h3];rfl
  ·show _=(ze n k (bw k t (i+1)) (i+1)).map _
   rw[SK h3];rfl
 ·subst hi
  simp only[ah.all,az]
  exact .refl _
abbrev akU:pP ((Nat×(Nat->Rat))×Rat×Unit):=kC (kL sK) (kC (gx sK) kN)
def rR:Spec:=cN akU (fun a=>.int .i64 (bw a.1.2 a.2.1 a.1.1)) fun a=>[a.1.1<2^40]
theorem JK:∀K args pre r,rR K args pre=some r->aE P uV K args pre r:=cy fun⟨⟨n,k⟩,t,_⟩ K hn=>aeN hn K
theorem Tl:∀K args pre r,rR K args pre=some r->aE P yI K args pre r:=cy fun⟨⟨n,k⟩,t,_⟩ K hn=>afN hn K
theorem alV {args:List AV} {n:Nat} {k:Nat->Rat} {l:List Prop} (ha:az l->fM (bh []) args [bq k n sJ]) (hn:az l->n<2^40) (K:Nat):aE P tr K args [] ⟨ji [.own K 3 0 n],[(K,gj n k)],l⟩:=by
 refine Ti hT JZ ha aX fun need c hk=>?_
 have hn:=hn need
 refine ax.kG hT lZ hm [1,1,0,1] (i:=0) (y:=part od [1,1,0,1,0,0]) (z:=part od [1,1,1]) ag ag ag JZ.dst hk (f1:=[]) (f2:=[12]) 60 zc 1 (fun i:Nat=>Ku n k i) (fun i=>[(0,gj i k)])
  (fun i=>i<=n) (fun i=>i=n) (fun i=>n-i) (fun _=>False) ⟨_,aj4,?_⟩ (fun i hi=>⟨_,ajI,?_⟩) (fun i hi=>?_) (fun _ _ h=>h.elim)
 ·simp only[ah.all,az]
  exact⟨aa,0,Nat.zero_le _,[(0,12288)],rfl,rfl,rfl,bL rfl rfl rfl (fun i hi=>absurd hi (Nat.not_lt_zero i)) trivial⟩
 ·simp only[ah.all,az,aZ,bk,aW,Nat.add_zero]
  exact⟨fun h2=>⟨aa,aa,aa,i+1,aa,by dsimp only;omega,[(0,40961)],rfl,rfl,rfl,bL rfl rfl rfl (fun j hj=>gM (fun _ _=>rfl) (Rat.add_zero _) aU (by decide) hj) trivial⟩,fun h2=>⟨rfl,i,aa,[(0,0)],rfl,rfl,rfl,bL rfl rfl rfl (fun j hj=>cL rfl rfl) trivial⟩⟩
 ·subst hi
  refine ax.bA hT lZ hm 60 [2] aeo ag fun s' hs'=>⟨.inr rfl,[2],_,[.own 0 3 0 i],_,0,_,hs',ag,⟨⟨rfl,cD (by simp[bh,look]) rfl rfl⟩,trivial⟩,rfl,jq rfl fun i hi=>aN rfl⟩
def Mq:Spec:=wj fun K l=>match l with
 |[v]=>match(kL sJ).read v with
  |some ((n,k),q)=>some ⟨.own K 3 0 n,[(K,gj n k)],q++[n<2^40]⟩
  |none=>none
 |_=>none
theorem abw:∀K args pre r,Mq K args pre=some r->aE P tr K args pre r:=by
 refine FI fun K args r hk hs=>?_
 split at hs
 ·rename_i v
  split at hs
  ·rename_i n k q hv
   simp only[ay]at hs
   subst hs
   exact alV (fun hn=>Jp hk (by cases v<;>first|rfl|simp[kL,BE]at hv) ⟨(kL sJ).ok hv (eL.1 hn).1,trivial⟩) (fun hn=>(eL (a:=q) (b:=[n<2^40]).1 hn).2) K
  ·simp at hs
 ·simp at hs
theorem P6:aT P HE JA (aA JA):=aY Proofs.Tryz.func175 ag ag ag
theorem TE:aT P vu Df (aA Df):=aY Proofs.Tryz.func97 ag ag ag
abbrev uF:Func:=JA
abbrev xP:Code:=aA uF
abbrev wv:Code:=part xP [1,1,0,1,0,0]
abbrev vm:Code:=part wv [1,0,0]
abbrev qp:Code:=part vm [1,0]
abbrev j5:List Nat:=[4,0,1,5]
abbrev yt (n i:Nat):List AV:=[.nil,.own 0 3 0 n,.func gX [],.int .i64 i]
abbrev Cb:List Nat:=[4,0,1,5,28]
abbrev KP (n i:Nat) (b:Bool):List AV:=[.nil,.own 0 3 0 n,.func gX [],.int .i64 i,.bool b]
abbrev xI:List Nat:=[4,0,1,5,6,7]
abbrev wF (n m b j:Nat):List AV:=[.nil,.own 0 3 0 n,.func gX [],.int .i64 m,.own 0 3 b (n-b),.int .i64 j]
theorem TT {n:Nat} {k:Nat->Rat}:aH T gP [10] 60 j5 (before xP [1,1,0,1]) ⟨aQ 0 [.own 0 3 0 n,.func gX []],[(0,gj n k)],1⟩=
  let c2:Nat×ak:=(0,ak.mk true true 3 n fun i=>rat (k i) 4096);let c1:AV:=own 0 3 0 n;some (fork (decide ((↑n:Int)<(2:Int))) (leaf ret ([c1,c1,func gX [],tuple []],[c2])) (leaf normal ([nil,c1,func gX [],int i64 1],[c2]))):=ag
theorem ZT {n i:Nat} {k:Nat->Rat}:aH T gP [15] 60 j5 (before wv [1,0]) ⟨aC j5 (yt n i),[(0,gj n k)],1⟩=
  let c1:List AV×aF:=([nil,own 0 3 0 n,func gX [],int i64 (↑i:Int)],[(0,ak.mk true true 3 n fun i=>rat (k i) 4096)]);some (fork (decide ((↑i:Int)<(↑n:Int))) (leaf normal c1) (leaf (exit 0) c1)):=ag
theorem ad3 {n i:Nat} {k:Nat->Rat}:aH T gP [] 60 Cb (before vm [1]) ⟨aC j5 (yt n i),[(0,gj n k)],1⟩=
  let c4:Int:=(↑i:Int);let c2:Nat:=c4.toNat+0;let c1:Int:=c4-(1:Int);let c3:Nat:=c1.toNat+0;some (aj [(0:Int)<=c4/\c4.toNat<n,c2<n,-(2:Int)^63<=c1/\c1<(2:Int)^63,(0:Int)<=c1/\c1.toNat<n,c3<n] (leaf normal ([nil,own 0 3 0 n,func gX [],int i64 c4,AV.bool (decide (k c2=k c3))],[(0,ak.mk true true 3 n fun i=>rat (k i) 4096)]))):=ag
theorem WI {n i:Nat} {b:Bool} {k:Nat->Rat}:aH T gP [] 60 xI (before qp [1,0,1]) ⟨aC Cb (KP n i b),[(0,gj n k)],1⟩=
  let c2:Int:=(↑i:Int);let c1:Int:=(↑n:Int);some (aj [(0:Int)<=c2/\c2<=c1/\c1<=c1/\c1<=c1] (leaf normal ([nil,own 0 3 0 n,func gX [],int i64 c2,own 0 3 ((0:Nat)+c2.toNat) (c1.toNat-c2.toNat),int i64 1],[(0,ak.mk true true 3 n fun i=>rat (k i) 4096)]))):=ag
theorem afs {n m b j:Nat} {k:Nat->Rat}:aH T gP [35,49] 60 xI [part qp [1,0,1,0,0]] ⟨aC xI (wF n m b j),[(0,gj n k)],1⟩=
  let c11:AV:=func gX [];let c7:AV:=own 0 3 b (n-b);let c6:Nat×ak:=(0,ak.mk true true 3 n fun i=>rat (k i) 4096);let c5:Int:=(↑m:Int);let c4:AV:=own 0 3 0 n;let c2:Int:=(2:Int)^63;let c1:Int:=(↑j:Int);let c13:Int:=c5+(1:Int);let c12:Prop:=(0:Int)<=c1/\c1.toNat<n-b;let c10:Nat:=c5.toNat+0;let c9:Nat:=c1.toNat+b;let c8:Int:=c1+(1:Int);let c3:Int:=c1-(1:Int);some (fork (decide (c1<(↑(n-b):Int))) (aj [c12,c9<n,-c2<=c3/\c3<c2,(0:Int)<=c3/\c3.toNat<n-b,c3.toNat+b<n] (fork (!decide (k c9=k (c3.toNat+b))) (aj [c12,c9<n,(0:Int)<=c5/\c5.toNat<n,c10<n] (aj [-c2<=c13/\c13<c2] (aj [-c2<=c8/\c8<c2] (leaf normal ([nil,c4,c11,int i64 c13,c7,int i64 c8],[(0,ak.mk true true 3 n fun j=>rat (bif j==c10 then k c9 else k j) (bif j==c10 then sK else sK))]))))) (aj [-c2<=c8/\c8<c2] (leaf normal ([nil,c4,c11,int i64 c5,c7,int i64 c8],[c6]))))) (leaf (exit 2) ([nil,c4,c11,int i64 c5,c7,int i64 c1],[c6]))):=ag
theorem ags {n m b j:Nat} {k:Nat->Rat}:aH T gP [] 60 j5 [part qp [1,1]] ⟨aC xI (wF n m b j),[(0,gj n k)],1⟩=
  let c4:Int:=(↑n:Int);let c2:Int:=(↑m:Int);let c3:Nat:=0+c2.toNat;let c1:Nat:=c3+(c4.toNat-c2.toNat);some (aj [(0:Int)<=c2/\c2<=c4/\c4<=c4/\c4<=c4] (aj [(0:Int)<=(0:Int)/\(0:Int)<=c2/\c2<=c2/\c2<=c4] (leaf ret ([own 0 3 0 (c2.toNat-Int.toNat (0:Int)),own 0 3 0 n,func gX [],int i64 c2],[(0,ak.mk true true 3 n fun i=>if c3<=i/\i<c1 then rat 0 1 else rat (k i) sK)])))):=ag
theorem V5 {n i:Nat} {b:Bool} {k:Nat->Rat}:aH T gP [] 60 j5 [part vm [1,1],part wv [1,1]] ⟨aC Cb (KP n i b),[(0,gj n k)],1⟩=
  let c1:Int:=(↑i:Int)+(1:Int);some (aj [-(2:Int)^63<=c1/\c1<(2:Int)^63] (leaf normal ([nil,own 0 3 0 n,func gX [],int i64 c1],[(0,ak.mk true true 3 n fun i=>rat (k i) 4096)]))):=ag
theorem WB {n i:Nat} {k:Nat->Rat}:aH T gP [] 60 j5 [part xP [1,1,1]] ⟨aC j5 (yt n i),[(0,gj n k)],1⟩=
  let c1:AV:=own 0 3 0 n;some (leaf ret ([c1,c1,func gX [],int i64 (↑i:Int)],[(0,ak.mk true true 3 n fun i=>rat (k i) 4096)])):=ag
def mz (k:Nat->Rat) (n i:Nat):Rat:=if i<bn k n then bH k n i else 0
theorem agv {k:Nat->Rat} {n:Nat} (h:∀j,j<n->fk k j) {i:Nat} (hi:i<n):bn k n=n/\mz k n i=k i:=by
 obtain⟨h1,h2⟩:=R9 h
 unfold mz
 rw[h1,if_pos hi]
 exact⟨rfl,h2 i hi⟩
theorem ad9 {kk n:Nat} {k:Nat->Rat} (hn:n<2^40) (c:Ctx) (hk:Kept [0] c):ax P c uF.ntmps xP ⟨aQ 0 [.own 0 3 0 n,.func gX []],[(0,gj n k)],1⟩ (Kj uF kk [.own kk 3 0 (bn k n)] (gj n (mz k n))):=by
 have hall:∀{L:List Nat} {us:List AV},(∀j,j<n->fk k j)->mE (aC L us) uF.results.toList=some [.own 0 3 0 n]->CV uF kk [.own kk 3 0 (bn k n)] (gj n (mz k n)) L (us,[(0,gj n k)]):=fun h1 h2=>
  ⟨_,_,h2,⟨⟨rfl,cD (by simp[bh,look]) rfl (R9 h1).1.symm⟩,trivial⟩,ot,rfl,rfl,rfl,rfl,fun i hi=>by
   show gu _ (.rat (k i) sK) (.rat (mz k n i) sK)
   rw[(agv h1 hi).2];exact aN rfl⟩
 refine ax.tY hT lZ hm [1,1,0,1] (i:=0) (y:=wv) (z:=part xP [1,1,1]) ag ag ag P6.dst hk (f1:=[10]) 60 j5 1 (fun i:Nat=>yt n i) (fun _=>[(0,gj n k)]) (fun i=>1<=i/\i<=n/\∀j,j<i->fk k j) (fun i=>i=n/\∀j,j<n->fk k j) (fun i=>n-i)
  (CV uF kk [.own kk 3 0 (bn k n)] (gj n (mz k n)) j5) ⟨_,TT,?_⟩ (fun i ⟨h1,h2,h3⟩=>?_) (fun i ⟨h1,h2⟩=>?_) (fun v s' hv hs'=>hv.fin hs')
 ·simp only[ah.all,az,aZ,bk]
  exact⟨fun h=>hall (fun j hj=>.inl aa) ag,fun h=>⟨1,⟨aa,aa,fun j hj=>.inl aa⟩,[(0,0)],rfl,rfl,rfl,bL rfl rfl rfl (fun x hx=>cL rfl rfl) trivial⟩⟩
 ·refine ax.nP hT lZ hm (y:=wv) (x1:=vm) (zb:=part wv [1,1]) [1,0] (j:=1) ag ag ag ag hk (f1:=[15]) 60 j5 1 (fun _:Unit=>yt n i) (fun _=>[(0,gj n k)]) (fun _=>i<n) ⟨_,ZT,?_⟩ (fun _ hlt=>?_)
  ·simp only[ah.all,az,aZ,bk]
   exact⟨fun h=>⟨(),aa,[(0,0)],rfl,rfl,rfl,bL rfl rfl rfl (fun x hx=>cL rfl rfl) trivial⟩,fun h s' hs'=>⟨rfl,i,⟨aa,fun j hj=>h3 j aa⟩,cP.le ⟨[(0,0)],rfl,rfl,rfl,bL rfl rfl rfl (fun x hx=>cL rfl rfl) trivial⟩ hs' hk⟩⟩
  refine ax.branch hT lZ hm (x:=vm) (u:=qp) (v:=part vm [1,1]) (b:=.tmp 28) [1] ag ag ag ag hk (f1:=[]) 60 Cb 1 (fun _:Unit=>KP n i (decide (k i=k (i-1)))) (fun _=>[(0,gj n k)]) (fun _=>True) ⟨_,ad3,?_⟩ (fun _ _=>⟨decide (k i=k (i-1)),rfl,fun hb=>?_,fun hb=>?_⟩)
  ·simp only[ah.all,az]
   simp only[aW,Nat.add_zero,show((i:Int)-1).toNat=i-1 by omega]
   exact⟨⟨⟨aa,aa⟩,aa,aa,⟨aa,aa⟩,aa⟩,(),trivial,[(0,0)],rfl,rfl,rfl,bL rfl rfl rfl (fun x hx=>cL rfl rfl) trivial⟩
  ·have hold:¬fk k i:=fun h=>by
    rcases h with h|h
    ·omega
    ·exact h (of_decide_eq_true hb)
   obtain⟨s1,s2⟩:=ag5 h3 hold
   refine ax.oE hT lZ hm (x:=qp) [1,0,1] (i:=2) (y:=part qp [1,0,1,0,0]) ag ag ag hk (f1:=[]) (f2:=[35,49]) 60 xI 1 (fun j:Nat=>wF n (bn k (i+j)) i j) (fun j=>[(0,gj n (iT k (i+j)))]) (fun j=>1<=j/\i+j<=n) (fun j=>i+j=n) (fun j=>n-j) (fun _=>False) ⟨_,WI,?_⟩ (fun j ⟨j1,j2⟩=>⟨_,afs,?_⟩) (fun j s' hj hle=>?_) (fun _ _ h=>h.elim)
   ·simp only[ah.all,az]
    simp only[aW,Nat.zero_add]
    refine⟨aa,1,⟨aa,aa⟩,[(0,0)],rfl,?_,rfl,bL rfl rfl rfl (fun x hx=>cL rfl ?_) trivial⟩
    ·show _=(wF n (bn k (i+1)) i 1).map _
     rw[s1];rfl
    ·rw[s2]
   ·simp only[ah.all,az,aZ,bk]
    have hd:=LP hold (l:=i+j) aa
    have e1:iT k (i+j) (j+i)=k (i+j):=by rw[Nat.add_comm j i];exact Nt aa
    have e2:iT k (i+j) (((j:Int)-1).toNat+i)=k (i+j-1):=by rw[show((j:Int)-1).toNat+i=i+j-1 by omega];exact Nt aa
    simp only[aW,Nat.add_zero,e1,e2,Bool.not_eq_true',Bool.not_eq_false',aZ,bk]
    refine⟨fun h=>⟨aa,fun hne=>⟨aa,aa,aa,j+1,aa,by dsimp only;omega,[(0,0)],rfl,?_,rfl,bL rfl rfl rfl (fun x hx=>?_) trivial⟩,fun heq=>⟨aa,j+1,aa,by dsimp only;omega,[(0,0)],rfl,?_,rfl,bL rfl rfl rfl (fun x hx=>?_) trivial⟩⟩,fun h=>⟨rfl,j,aa,[(0,0)],rfl,rfl,rfl,bL rfl rfl rfl (fun x hx=>cL rfl rfl) trivial⟩⟩
    ·show _=(wF n (bn k (i+j+1)) i (j+1)).map _
     rw[Q1 (l:=i+j) (.inr hne)];rfl
    ·refine .inr ⟨rfl,bM ?_ (by cases (x==bn k (i+j))<;>exact Nat.le_refl _)⟩
     show _=iT k (i+j+1) x
     rw[ahw (.inr hne) aa]
     by_cases hx2:x=bn k (i+j)
     ·subst hx2;simp
     ·have:(x==bn k (i+j))=false:=by simpa using hx2
      rw[this,if_neg hx2];rfl
    ·have hold2:¬fk k (i+j):=fun h=>by
      rcases h with h|h
      ·omega
      ·exact h heq
     show _=(wF n (bn k (i+j+1)) i (j+1)).map _
     rw[Jj hold2];rfl
    ·have hold2:¬fk k (i+j):=fun h=>by
      rcases h with h|h
      ·omega
      ·exact h heq
     exact cL rfl (by show _=AV.rat (iT k (i+j+1) x) sK;rw[(ag9 hold2).2])
   ·rw[show behind qp [1,0,1]=[part qp [1,1]]from by kernel_rfl]
    refine aI.weak rfl hle (aI.bA hT lZ hm 60 j5 ags ag ?_)
    simp only[ah.all,az]
    rw[hj]
    have hd:=mW (k:=k) (n:=n)
    simp only[aW,Nat.zero_add]
    refine⟨aa,aa,fun s' hs'=>⟨_,⟨[.own 0 3 0 (bn k n)],⟨true,true,3,n,fun i=>if bn k n<=i/\i<bn k n+(n-bn k n)then .rat 0 1 else .rat (iT k n i) sK⟩,ag,⟨⟨rfl,cD (by simp[bh,look]) rfl rfl⟩,trivial⟩,rfl,⟨rfl,rfl,rfl,rfl,fun x hx=>?_⟩⟩,hs'⟩⟩
    have hx:x<n:=hx
    refine mL (oZ rfl rfl) ?_
    show bG (if _ then _ else _) (.rat (mz k n x) sK)
    unfold mz
    by_cases h:x<bn k n
    ·rw[if_neg aa,if_pos h]
     exact dF (by unfold iT;rw[if_pos h])
    ·rw[if_pos aa,if_neg h]
     exact fK (by decide)
  ·have hnew:fk k i:=.inr (of_decide_eq_false hb)
   refine ax.tail (fun s' hh=>by have:=hh.1;omega) (aI.bA hT lZ hm 60 j5 V5 ag ?_)
   simp only[ah.all,az]
   refine⟨aa,fun s' hs'=>⟨i+1,⟨aa,aa,fun j hj=>?_⟩,by dsimp only;omega,cP.le ⟨[(0,0)],rfl,rfl,rfl,bL rfl rfl rfl (fun x hx=>cL rfl rfl) trivial⟩ hs' hk⟩⟩
   by_cases he:j=i
   ·subst he;exact hnew
   ·exact h3 j aa
 ·subst h1
  refine ax.bA hT lZ hm 60 j5 WB ag ?_
  simp only[ah.all,az]
  exact fun s' hs'=>(hall h2 ag).fin hs'
def GO (f:Nat->AV) (n s:Nat):Prop:=∀i,i<n->keys (f i)=[]/\bG (f i) (.rat (aR (f i)) s)
theorem ajS {k:Nat->Rat} {n s s':Nat} (h:s<=s'):GO (fun i=>.rat (k i) s) n s':=fun _ _=>⟨rfl,fK h⟩
def Hl:Spec:=fun _ args pre=>match args,pre with
 |[.own k 3 0 n,.func g []],[(k',⟨true,true,3,m,f⟩)]=>match Nat.beq g gX&&k'==k with
  |true=>some ⟨ji [.own k 3 0 (bn (fun i=>aR (f i)) n)],[(k,gj n (mz (fun i=>aR (f i)) n))],[m=n,GO f n sK,n<2^40]⟩
  |false=>none
 |_,_=>none
theorem Us:∀K args pre r,Hl K args pre=some r->aE P HE K args pre r:=by
 intro K args pre r h
 unfold Hl at h
 split at h
 ·rename_i k n g k' m f
  split at h
  ·rename_i hc
   simp only[Bool.and_eq_true,beq_iff_eq]at hc
   obtain⟨h1,h2⟩:=hc
   have h1:=Nat.eq_of_beq_eq_true h1
   subst h1 h2
   simp only[ay]at h
   subst h
   intro need
   have h0:=need
   obtain⟨rfl,n1,n2⟩:=need
   exact Zh hT P6 (rest:=[.func gX []]) (o2:=⟨true,true,3,m,f⟩) (o:=gj m fun i=>aR (f i)) rfl rfl aX (fun ρ=>⟨rfl,rfl,rfl,rfl,fun i hi=>mL (n1 i hi).1 (n1 i hi).2⟩) (fun _ c hk=>ad9 n2 c hk) K h0
  ·simp at h
 ·simp at h
end Go.Am.B
