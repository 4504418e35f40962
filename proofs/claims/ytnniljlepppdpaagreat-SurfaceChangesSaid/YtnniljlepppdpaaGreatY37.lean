/- brepkernelmade: Part. -/
import Derived.Test.YtnniljlepppdpaaGreatB33
import Derived.Test.YtnniljlepppdpaaGreatZ2
import Init
set_option linter.unusedVariables false
noncomputable section
namespace Go.Am.B
open Go Go.Am.N AV
theorem adi:aT P LV Hf (ay Hf):=aU Proofs.Tryz.func79 ag ag ag
def ait:bf:=[(xQ,Kk),(pC,rT)]
theorem ajl {d:Int}:bU T ait [] 60 Hf (ay Hf) ⟨aP 0 [.int .i64 d],[],0⟩=
  some (ah.aj [(17:Int)≠(0:Int),(0:Int)<12,(12:Int)<2^62] (ah.aj [(0:Int)<IntKind.i64.wrap (IntKind.i64.wrap ((1:Int)+IntKind.i64.wrap (d.tdiv (17:Int))%(12:Int))+1),IntKind.i64.wrap (IntKind.i64.wrap ((1:Int)+IntKind.i64.wrap (d.tdiv (17:Int))%(12:Int))+1)<2^62,-(2:Int)^63<=d%IntKind.i64.wrap (IntKind.i64.wrap ((1:Int)+IntKind.i64.wrap (d.tdiv (17:Int))%(12:Int))+1),d%IntKind.i64.wrap (IntKind.i64.wrap ((1:Int)+IntKind.i64.wrap (d.tdiv (17:Int))%(12:Int))+1)<2^63,-(2:Int)^63<=IntKind.i64.wrap ((1:Int)+IntKind.i64.wrap (d.tdiv (17:Int))%(12:Int)),IntKind.i64.wrap ((1:Int)+IntKind.i64.wrap (d.tdiv (17:Int))%(12:Int))<2^63,(0:Nat)<1] (ah.aj [(0:Nat)<1] (ah.leaf ax.ret [rat ((↑(d%IntKind.i64.wrap (IntKind.i64.wrap ((1:Int)+IntKind.i64.wrap (d.tdiv (17:Int))%(12:Int))+1)):Rat)/(↑(IntKind.i64.wrap ((1:Int)+IntKind.i64.wrap (d.tdiv (17:Int))%(12:Int))):Rat)) 64])))):=ag
def zF (d:Int):Int:=1+IntKind.i64.wrap (d.tdiv 17)%12
def mY (d:Int):Rat:=((d%(zF d+1):Int):Rat)/((zF d:Int):Rat)
def Sn:Spec:=bY fun l=>match l with
 |[.int .i64 d]=>some (aJ (.rat (mY d) 64) [])
 |_=>none
theorem ana:aW P Sn LV:=by
 refine cJ fun K args r hk hs _=>?_
 split at hs
 ·rename_i d
  simp only[az]at hs
  subst hs
  refine bZ hT (aI M3 (aI vp bz)) hm adi rfl aX rfl 60 ajl (fun _=>?_) K []
  unfold mY zF
  generalize IntKind.i64.wrap (d.tdiv 17)=w at*
  have w1:=Int.emod_nonneg w (show(12:Int)≠0 by omega)
  have w2:=Int.emod_lt_of_pos w (show(0:Int)<12 by omega)
  generalize w%12=x at*
  have e1:IntKind.i64.wrap (1+x)=1+x:=wrap_i64 aa aa
  have e2:IntKind.i64.wrap (1+x+1)=1+x+1:=wrap_i64 aa aa
  rw[e1,e2]
  have v1:=Int.emod_nonneg d (show 1+x+1≠0 by omega)
  have v2:=Int.emod_lt_of_pos d (show 0<1+x+1 by omega)
  generalize d%(1+x+1)=y at*
  simp only[ah.all,aA]
  exact⟨⟨aa,aa,aa⟩,⟨aa,aa,aa,aa,aa,aa,aa⟩,aa,.refl _⟩
 ·simp at hs
@[ext] structure V3 where
 x:Rat
 y:Rat
 z:Rat
structure Pl where
 n:V3
 d:Rat
abbrev rA (q:Rat) (n:Nat):AV:=.rat q n
abbrev vA (v:V3) (n:Nat):AV:=.agg [.rat v.x n,.rat v.y n,.rat v.z n]
abbrev bh (p:Pl) (n:Nat):AV:=.agg [vA p.n n,.rat p.d n]
theorem bO {q r:Rat} {n k:Nat} (h:q=r) (hk:n<=k):bN (.rat q n) (.rat r k):=h▸eR hk
theorem Ab {u v:V3} {n k:Nat} (h:u=v) (hk:n<=k):bN (vA u n) (vA v k):=
 h▸b7 ⟨bO rfl hk,bO rfl hk,bO rfl hk,trivial⟩
structure Kind (α:Type) where
 read:AV->Option (α×List Prop)
 make:α->AV
 ok:∀{v:AV} {a:α} {q:List Prop},read v=some (a,q)->aA q->bN v (make a)
def jQ:AV->Option (Rat×Nat)
 |.rat q n=>some (q,n)
 |.agg [.bool false,.mag 0,.mag 0]=>some (0,1)
 |_=>none
theorem kX {v:AV} {a:Rat×Nat} (h:jQ v=some a):bN v (rA a.1 a.2):=by
 unfold jQ at h
 split at h
 ·simp only[az]at h;subst h;exact .refl _
 ·simp only[az]at h;subst h;exact kG
 ·simp at h
def Kl:AV->Option ((V3×Nat)×List Prop)
 |.agg [x,y,z]=>match jQ x,jQ y,jQ z with
  |some (x,a),some (y,b),some (z,c)=>some ((⟨x,y,z⟩,a),[b<=a,c<=a])
  |_,_,_=>none
 |_=>none
theorem Xb {v:AV} {a:V3×Nat} {q:List Prop} (h:Kl v=some (a,q)) (hq:aA q):bN v (vA a.1 a.2):=by
 unfold Kl at h
 split at h
 ·split at h
  ·rename_i h1 h2 h3
   simp only[az,Prod.mk.injEq]at h
   obtain⟨rfl,rfl⟩:=h
   exact b7 ⟨kX h1,(kX h2).trans (bO rfl hq.1),(kX h3).trans (bO rfl hq.2),trivial⟩
  ·simp at h
 ·simp at h
def Fh:AV->Option ((Pl×Nat)×List Prop)
 |.agg [v,d]=>match Kl v,jQ d with
  |some ((v,a),q),some (d,b)=>some ((⟨v,d⟩,max a b),q)
  |_,_=>none
 |_=>none
theorem aon {v:AV} {a:Pl×Nat} {q:List Prop} (h:Fh v=some (a,q)) (hq:aA q):bN v (bh a.1 a.2):=by
 unfold Fh at h
 split at h
 ·split at h
  ·rename_i h1 h2
   simp only[az,Prod.mk.injEq]at h
   obtain⟨rfl,rfl⟩:=h
   exact b7 ⟨(Xb h1 hq).trans (Ab rfl (by simp only;omega)),(kX h2).trans (bO rfl (by simp only;omega)),trivial⟩
  ·simp at h
 ·simp at h
def Ji (v:AV):Option ((Rat×Nat)×List Prop):=match jQ v with
 |some a=>some (a,[])
 |none=>none
theorem ajI {v:AV} {a:Rat×Nat} {q:List Prop} (h:Ji v=some (a,q)) (_:aA q):bN v (rA a.1 a.2):=by
 unfold Ji at h
 split at h
 ·rename_i h1
  simp only[az,Prod.mk.injEq]at h
  obtain⟨rfl,rfl⟩:=h
  exact kX h1
 ·simp at h
def Ip:AV->Option (Int×List Prop)
 |.int .i64 n=>some (n,[])
 |_=>none
theorem akv {v:AV} {a:Int} {q:List Prop} (h:Ip v=some (a,q)) (_:aA q):bN v (.int .i64 a):=by
 unfold Ip at h
 split at h
 ·simp only[az,Prod.mk.injEq]at h
  obtain⟨rfl,rfl⟩:=h
  exact .refl _
 ·simp at h
def kR:Kind (Rat×Nat):=⟨Ji,fun a=>rA a.1 a.2,ajI⟩
def Y1:Kind (Pl×Nat):=⟨Fh,fun a=>bh a.1 a.2,aon⟩
def kI:Kind Int:=⟨Ip,fun a=>.int .i64 a,akv⟩
section specs
variable {α β γ δ:Type} {f:FuncId}
def JP (k:Kind α) (g:α->AV) (need:α->List Prop):Spec:=bY fun l=>match l with
 |[x]=>match k.read x with
  |some (a,p)=>some (aJ (g a) (p++need a))
  |none=>none
 |_=>none
theorem Rn {k:Kind α} {g:α->AV} {need:α->List Prop} (h:∀a K,aA (need a)->aQ P f K [k.make a] [] (aJ (g a) [])):aW P (JP k g need) f:=by
 refine cJ fun K args r hk hs _=>?_
 split at hs
 ·split at hs
  ·rename_i h1
   simp only[az]at hs
   subst hs
   intro hn
   obtain⟨n1,hn⟩:=dD.1 hn
   exact gZ (h _ K hn) hk ⟨k.ok h1 n1,trivial⟩ [] trivial
  ·simp at hs
 ·simp at hs
def jC (k:Kind α) (k2:Kind β) (g:α->β->AV) (need:α->β->List Prop):Spec:=bY fun l=>match l with
 |[x,y]=>match k.read x,k2.read y with
  |some (a,p),some (b,q)=>some (aJ (g a b) (p++(q++need a b)))
  |_,_=>none
 |_=>none
theorem jY {k:Kind α} {k2:Kind β} {g:α->β->AV} {need:α->β->List Prop} (h:∀a b K,aA (need a b)->aQ P f K [k.make a,k2.make b] [] (aJ (g a b) [])):aW P (jC k k2 g need) f:=by
 refine cJ fun K args r hk hs _=>?_
 split at hs
 ·split at hs
  ·rename_i h1 h2
   simp only[az]at hs
   subst hs
   intro hn
   obtain⟨n1,hn⟩:=dD.1 hn
   obtain⟨n2,hn⟩:=dD.1 hn
   exact gZ (h _ _ K hn) hk ⟨k.ok h1 n1,k2.ok h2 n2,trivial⟩ [] trivial
  ·simp at hs
 ·simp at hs
end specs
def r6 (a b:Rat×Nat):List Prop:=[a.2<2^42,b.2<2^42]
def oU (a b:Rat×Nat):List Prop:=[a.2<2^41,b.2<2^41]
def lH (a b:Rat×Nat):AV:=rA (a.1+b.1) (a.2+b.2+1)
def EW (a b:Rat×Nat):AV:=rA (a.1-b.1) (a.2+b.2+1)
def Hh (a b:Rat×Nat):AV:=rA (a.1*b.1) (a.2+b.2)
def C3 (a b:Rat×Nat):AV:=.tuple [rA (a.1/b.1) (a.2+b.2),.int .i64 (if b.1=0 then 3 else 0)]
def Wq (a b:Rat×Nat):AV:=rA (uw a.1 b.1) (max a.2 b.2)
def aar (a b:Rat×Nat):AV:=rA (sD a.1 b.1) (max a.2 b.2)
def DP (a b:Rat×Nat):AV:=.int .i64 (eV a.1 b.1)
def Gj (a b:Rat×Nat):AV:=.bool (decide (a.1=b.1))
def C9 (a:Rat×Nat):AV:=.int .i64 (fD a.1)
abbrev LO:FuncId×Spec:=(vk,Sm)
def iR:bf:=[(GU,jC kR kR lH r6),(BR,jC kR kR EW r6),(Fs,jC kR kR Hh r6),(iC,jC kR kR Gj r6),(lC,jC kR kR DP r6),(vI,JP kR C9 fun a=>[a.2<2^42]),LO]
def nY:bf:=[(wZ,jC kR kR lH oU),(CM,jC kR kR EW oU),(BH,jC kR kR Hh oU),(Fx,jC kR kR Gj oU),(EP,jC kR kR DP oU),(u5,JP kR C9 fun a=>[a.2<2^41]),(qd,yL)]
theorem ahE:aW P LO.2 LO.1:=an3
theorem jU:bu P iR:=aI (jY fun _ _ K hn=>RF hn.1 hn.2 K) (aI (jY fun _ _ K hn=>T1 hn.1 hn.2 K) (aI (jY fun _ _ K hn=>PF hn.1 hn.2 K)
 (aI (jY fun _ _ K hn=>TL (Nat.lt_trans hn.1 aa) (Nat.lt_trans hn.2 aa) K []) (aI (jY fun _ _ K hn=>Iy hn.1 hn.2 K []) (aI (Rn fun _ K hn=>KI (Nat.lt_trans hn aa) K []) (aI ahE bz))))))
theorem oW:bu P nY:=aI (jY fun _ _ K hn=>HG hn.1 hn.2 K) (aI (jY fun _ _ K hn=>N5 hn.1 hn.2 K) (aI (jY fun _ _ K hn=>Sa hn.1 hn.2 K)
 (aI (jY fun _ _ K hn=>OP (Nat.lt_trans hn.1 aa) (Nat.lt_trans hn.2 aa) K []) (aI (jY fun _ _ K hn=>OM hn.1 hn.2 K) (aI (Rn fun _ K _=>Hy K []) (aI Cw bz))))))
end Go.Am.B
namespace Go.Am.B
open Go Go.Am.N AV
structure Kd (α:Type) where
 read:AV->Option α
 make:α->AV
 ok:∀{v:AV} {a:α},read v=some a->bN v (make a)
def Jc:AV->Option (V3×Nat)
 |.agg [x,y,z]=>match jQ x,jQ y,jQ z with
  |some (x,a),some (y,b),some (z,c)=>some (⟨x,y,z⟩,max a (max b c))
  |_,_,_=>none
 |_=>none
theorem amT {v:AV} {a:V3×Nat} (h:Jc v=some a):bN v (vA a.1 a.2):=by
 unfold Jc at h
 split at h
 ·split at h
  ·rename_i h1 h2 h3
   simp only[az]at h
   subst h
   exact b7 ⟨(kX h1).trans (bO rfl (by simp only;omega)),(kX h2).trans (bO rfl (by simp only;omega)),(kX h3).trans (bO rfl (by simp only;omega)),trivial⟩
  ·simp at h
 ·simp at h
def dR:Kd (Rat×Nat):=⟨jQ,fun a=>rA a.1 a.2,kX⟩
def dV:Kd (V3×Nat):=⟨Jc,fun a=>vA a.1 a.2,amT⟩
section specs
variable {α β γ δ:Type} {f:FuncId}
def JW (k:Kd α) (g:α->AV) (B:α->Bool):Spec:=bY fun l=>match l with
 |[x]=>match k.read x with
  |some a=>match B a with
   |true=>some (aJ (g a) [])
   |false=>none
  |_=>none
 |_=>none
theorem UF {k:Kd α} {g:α->AV} {B:α->Bool} (h:∀a K,B a=true->aQ P f K [k.make a] [] (aJ (g a) [])):aW P (JW k g B) f:=by
 refine cJ fun K args r hk hs _=>?_
 split at hs
 ·split at hs
  ·rename_i h1
   split at hs
   ·rename_i hB
    simp only[az]at hs
    subst hs
    exact gZ (h _ K hB) hk ⟨k.ok h1,trivial⟩ []
   ·simp at hs
  ·simp at hs
 ·simp at hs
def kM (k:Kd α) (k2:Kd β) (g:α->β->AV) (B:α->β->Bool):Spec:=bY fun l=>match l with
 |[x,y]=>match k.read x,k2.read y with
  |some a,some b=>match B a b with
   |true=>some (aJ (g a b) [])
   |false=>none
  |_,_=>none
 |_=>none
theorem lI {k:Kd α} {k2:Kd β} {g:α->β->AV} {B:α->β->Bool} (h:∀a b K,B a b=true->aQ P f K [k.make a,k2.make b] [] (aJ (g a b) [])):aW P (kM k k2 g B) f:=by
 refine cJ fun K args r hk hs _=>?_
 split at hs
 ·split at hs
  ·rename_i h1 h2
   split at hs
   ·rename_i hB
    simp only[az]at hs
    subst hs
    exact gZ (h _ _ K hB) hk ⟨k.ok h1,k2.ok h2,trivial⟩ []
   ·simp at hs
  ·simp at hs
 ·simp at hs
end specs
def b1 {α:Type} (e:Nat) (a:α×Nat):Bool:=Nat.blt a.2 (2^e)
def b2 {α β:Type} (e:Nat) (a:α×Nat) (b:β×Nat):Bool:=Nat.blt a.2 (2^e)&&Nat.blt b.2 (2^e)
def b3 {α β γ:Type} (e:Nat) (a:α×Nat) (b:β×Nat) (c:γ×Nat):Bool:=Nat.blt a.2 (2^e)&&(Nat.blt b.2 (2^e)&&Nat.blt c.2 (2^e))
theorem QM {a b:Nat}:Nat.blt a b=true↔a<b:=by rw[Nat.blt_eq]
theorem aiU {α:Type} {e:Nat} {a:α×Nat} (h:b1 e a=true):a.2<2^e:=QM.1 h
theorem gv {α β:Type} {e:Nat} {a:α×Nat} {b:β×Nat} (h:b2 e a b=true):a.2<2^e/\b.2<2^e:=by
 simp only[b2,Bool.and_eq_true,QM]at h;exact h
def E7:Spec:=bY fun l=>match l with
 |[.int .i64 n]=>match decide (-2^63<=n/\n<2^63)with
  |true=>some (aJ (.rat (n:Rat) (max 1 (bQ n.natAbs))) [])
  |false=>none
 |_=>none
abbrev Ms:FuncId×Spec:=(vk,E7)
abbrev JX:FuncId×Spec:=(LW,kM dR dR Wq (b2 42))
abbrev Iv:FuncId×Spec:=(Ir,kM dR dR aar (b2 42))
def vU:bf:=[(GU,kM dR dR lH (b2 42)),(BR,kM dR dR EW (b2 42)),(Fs,kM dR dR Hh (b2 42)),(iC,kM dR dR Gj (b2 42)),(lC,kM dR dR DP (b2 42)),(vI,JW dR C9 (b1 42)),Ms,(zL,kM dR dR C3 (b2 42)),JX,Iv]
def nr:bf:=[(wZ,kM dR dR lH (b2 41)),(CM,kM dR dR EW (b2 41)),(BH,kM dR dR Hh (b2 41)),(Fx,kM dR dR Gj (b2 41)),(EP,kM dR dR DP (b2 41)),(u5,JW dR C9 (b1 41)),(qd,E7)]
theorem KV {n:Nat} (h:n<2^42):n<2^44:=Nat.lt_trans h aa
theorem R5 {n:Nat} (h:n<2^41):n<2^44:=Nat.lt_trans h aa
theorem Kz {f:FuncId} (h:∀{n:Int},-2^63<=n->n<2^63->∀K,aQ P f K [.int .i64 n] [] (aJ (.rat (n:Rat) (max 1 (bQ n.natAbs))) [])):aW P E7 f:=by
 refine cJ fun K args r hk hs _=>?_
 split at hs
 ·split at hs
  ·rename_i hc
   simp only[az]at hs
   subst hs
   have:=of_decide_eq_true hc
   exact h this.1 this.2 K
  ·simp at hs
 ·simp at hs
theorem ail:aW P Ms.2 Ms.1:=Kz JO
theorem WS:aW P JX.2 JX.1:=lI fun _ _ K hn=>ZH (gv hn).1 (gv hn).2 K
theorem aeJ:aW P Iv.2 Iv.1:=lI fun _ _ K hn=>afp (gv hn).1 (gv hn).2 K
theorem xO:bu P vU:=aI (lI fun _ _ K hn=>RF (gv hn).1 (gv hn).2 K) (aI (lI fun _ _ K hn=>T1 (gv hn).1 (gv hn).2 K) (aI (lI fun _ _ K hn=>PF (gv hn).1 (gv hn).2 K)
 (aI (lI fun _ _ K hn=>TL (KV (gv hn).1) (KV (gv hn).2) K []) (aI (lI fun _ _ K hn=>Iy (gv hn).1 (gv hn).2 K []) (aI (UF fun _ K hn=>KI (KV (aiU hn)) K []) (aI ail
 (aI (lI fun _ _ K hn=>Lh (gv hn).1 (gv hn).2 K) (aI WS (aI aeJ bz)))))))))
theorem oy:bu P nr:=aI (lI fun _ _ K hn=>HG (gv hn).1 (gv hn).2 K) (aI (lI fun _ _ K hn=>N5 (gv hn).1 (gv hn).2 K) (aI (lI fun _ _ K hn=>Sa (gv hn).1 (gv hn).2 K)
 (aI (lI fun _ _ K hn=>OP (R5 (gv hn).1) (R5 (gv hn).2) K []) (aI (lI fun _ _ K hn=>OM (gv hn).1 (gv hn).2 K) (aI (UF fun _ K _=>Hy K []) (aI (Kz Rb) bz))))))
end Go.Am.B
namespace Go.Am.B
open Go Go.Am.N AV
theorem aci:aT P J2 CA (ay CA):=aU Proofs.Tryz.func108 ag ag ag
theorem VQ:aT P yq DD (ay DD):=aU Proofs.Tryz.func22 ag ag ag
theorem abr {q r:Rat} {n m:Nat}:bU T sL [9] 60 CA (ay CA) ⟨aP 0 [.rat q n,.rat r m],[],0⟩=
  some (ah.aj [(0:Nat)<1] (ah.fork ((↑(nl r.num.natAbs):Int)==0) (ah.aj [(0:Nat)<1] (ah.aj [(0:Nat)<1] (ah.leaf ax.ret [agg [AV.bool false,mag 0,mag 0],int .i64 (3:Int)]))) (ah.aj [(0:Nat)<1,(0:Nat)<1,(0:Nat)<1,(0:Nat)<1,nl q.num.natAbs<2^39,nl r.den<2^39,(0:Nat)<1,(0:Nat)<1,nl q.den<2^39,nl r.num.natAbs<2^39,nl (q.num.natAbs*r.den)<2^38,nl (q.den*r.num.natAbs)<2^38,q.den*r.num.natAbs≠0,(0:Nat)<1] (ah.aj [(0:Nat)<1] (ah.leaf ax.ret [rat (sQ (decide (q<0)!=decide (r<0)) (q.num.natAbs*r.den) (q.den*r.num.natAbs)) (cZ (sQ (decide (q<0)!=decide (r<0)) (q.num.natAbs*r.den) (q.den*r.num.natAbs))),int .i64 (0:Int)]))))):=ag
theorem ahG {q r:Rat} {n m:Nat} (hn:n<2^41) (hm':m<2^41) (K:Nat):aQ P J2 K [.rat q n,.rat r m] [] (aJ (.tuple [.rat (q/r) (n+m),.int .i64 (if r=0 then 3 else 0)]) []):=by
 refine jV fun⟨hq,hr,_⟩=>?_
 have hq:Sz q n:=hq
 have hr:Sz r m:=hr
 have d1:=q.den_nz
 have d2:=r.den_nz
 have a1:nl q.num.natAbs<2^38:=gi hq.1 aa
 have a2:nl q.den<2^38:=gi hq.2 aa
 have b1:nl r.num.natAbs<2^38:=gi hr.1 aa
 have b2:nl r.den<2^38:=gi hr.2 aa
 have m1:nl (q.num.natAbs*r.den)<2^38:=gi (o8 hq.1 hr.2) aa
 have m3:nl (q.den*r.num.natAbs)<2^38:=gi (o8 hq.2 hr.1) aa
 refine bZ hT xj hm aci rfl aX rfl 60 abr (fun _=>?_) K []
 have key:((nl r.num.natAbs:Int)==0)=decide (r=0):=by
  by_cases h:r=0
  ·subst h;rfl
  ·have h1:r.num.natAbs≠0:=fun e=>h (oc.1 e)
   have:=gJ.2 h1
   simp only[h,decide_false,beq_eq_false_iff_ne];omega
 rw[key]
 simp only[ah.all,aA,bq,bw]
 refine⟨aa,fun h0=>?_,fun h0=>?_⟩
 ·refine⟨aa,aa,?_,bK (by rw[if_pos h0]),trivial⟩
  have e:q/r=0:=by rw[h0,Rat.div_def,Rat.inv_zero,Rat.mul_zero]
  obtain⟨k,hk⟩:∃k,n+m=k+1:=⟨n+m-1,by have:=hq.pos;omega⟩
  rw[e,hk]
  first|exact kG|exact eR aa
 ·have hr0:r.num.natAbs≠0:=fun h=>h0 (oc.1 h)
  have hv:=Ll q r h0
  (repeat' with_reducible refine And.intro ?_ ?_)
  all_goals first|omega|exact m1|exact m3|exact Nat.mul_ne_zero d1 hr0|skip
  exact⟨dn hv (hq.div hr),bK (by rw[if_neg h0]),trivial⟩
def SC:bf:=[(J2,jC kR kR C3 oU)]
theorem WG:bu P SC:=aI (jY fun _ _ K hn=>ahG hn.1 hn.2 K) bz
theorem ai2 {q r:Rat} {n m:Nat}:bU T SC [] 60 DD (ay DD) ⟨aP 0 [.rat q n,.rat r m],[],0⟩=
  some (ah.aj [(0:Nat)<1,(0:Nat)<1,n<2^41,m<2^41,(0:Nat)<1] (ah.aj [(0:Nat)<1,(0:Nat)<1] (ah.aj [(0:Nat)<1] (ah.leaf ax.ret [rat (q/r) (n+m)])))):=ag
theorem HY {q r:Rat} {n m:Nat} (hn:n<2^41) (hm':m<2^41) (K:Nat):aQ P yq K [.rat q n,.rat r m] [] (aJ (.rat (q/r) (n+m)) []):=by
 refine bZ hT WG hm VQ rfl aX rfl 60 ai2 (fun _=>?_) K []
 simp only[ah.all,aA]
 (repeat' with_reducible refine And.intro ?_ ?_)
 all_goals first|omega|exact bN.refl _
def Lg (a b:Rat×Nat):AV:=rA (a.1/b.1) (a.2+b.2)
def x6 (n:Nat) (f:Nat->Rat):Rat:=match n with
 |0=>0
 |n+1=>x6 n f+f n
structure Kn (n p:Nat) (k:Nat->Rat):Prop where
 p1:1<=p
 len:2*p+2<=n
 sorted:∀i,i+1<n->k i<=k (i+1)
 first:∀i,i<=p->k i=k 0
 last:∀i,n<=i+p+1->i<n->k i=k (n-1)
 mult:∀i,1<=i->i+p+1<n->k i<k (i+p)
theorem gX {n:Nat} {k:Nat->Rat} (h:∀i,i+1<n->k i<=k (i+1)) {i:Nat}:∀{j:Nat},i<=j->j<n->k i<=k j
 |0,hij,_=>by
    have:i=0:=by omega
    subst this;exact Rat.le_refl
 |j+1,hij,hj=>by
  by_cases he:i=j+1
  ·subst he;exact Rat.le_refl
  ·exact Rat.le_trans (gX h (j:=j) (by omega) (by omega)) (h j hj)
theorem Kn.mono {n p:Nat} {k:Nat->Rat} (h:Kn n p k) {i j:Nat} (hij:i<=j) (hj:j<n):k i<=k j:=gX h.sorted hij hj
def fr (a b t:Rat):Rat:=(t-a)/(b-a)
theorem nU {a b t:Rat} (h:a<b):fr a b t*(b-a)=t-a:=by
 unfold fr;rw[Rat.div_mul_cancel];intro e;grind
theorem Ql {a b:Rat}:fr a b a=0:=by
 unfold fr;rw[Rat.sub_self,Rat.div_def,Rat.zero_mul]
theorem akl {a b:Rat} (h:a<b):fr a b b=1:=by
 unfold fr;rw[Rat.div_def,Rat.mul_inv_cancel];intro e;grind
theorem aeu {a b t:Rat} (h:a<b) (h0:a<=t):0<=fr a b t:=by
 have e:=nU (t:=t) h
 rcases Rat.le_total (a:=0) (b:=fr a b t)with h1|h1
 ·exact h1
 ·by_cases h2:fr a b t=0
  ·rw[h2];exact Rat.le_refl
  ·have:=Rat.mul_pos (a:=-fr a b t) (b:=b-a) (by grind) (by grind)
   grind
theorem aky {a b t:Rat} (h:a<b) (h0:t<=b):fr a b t<=1:=by
 have e:=nU (t:=t) h
 rcases Rat.le_total (a:=fr a b t) (b:=1)with h1|h1
 ·exact h1
 ·by_cases h2:fr a b t=1
  ·rw[h2];exact Rat.le_refl
  ·have:=Rat.mul_pos (a:=fr a b t-1) (b:=b-a) (by grind) (by grind)
   grind
def vB (k:Nat->Rat) (i:Nat) (t:Rat):Nat->Nat->Rat
 |0,j=>if j=0 then 1 else 0
 |d+1,j=>(if j=0 then 0 else fr (k (i-d+(j-1))) (k (i-d+(j-1)+(d+1))) t*vB k i t d (j-1))+
   (if j<=d then(1-fr (k (i-d+j)) (k (i-d+j+(d+1))) t)*vB k i t d j else 0)
structure At (n:Nat) (k:Nat->Rat) (i:Nat):Prop where
 lt:i+1<n
 sorted:∀i,i+1<n->k i<=k (i+1)
 wide:k i<k (i+1)
theorem At.around {n:Nat} {k:Nat->Rat} {i:Nat} (h:At n k i) {a b:Nat} (ha:a<=i) (hb:i<b) (hn:b<n):k a<k b:=by
 have h1:=gX h.sorted ha (show i<n by have:=h.lt;omega)
 have h2:=gX h.sorted (show i+1<=b by omega) hn
 have h3:=h.wide
 grind
def iA (k:Nat->Rat) (b p r:Nat) (t:Rat) (x:Nat->Rat) (j:Nat):Rat:=
 if r<j then x (j-1)+fr (k (b+j)) (k (b+j+(p-r))) t*(x j-x (j-1))else x j
def bl (k:Nat->Rat) (b p:Nat):Nat->(Nat->Rat)->List Rat->Nat->Rat
 |_,x,[]=>x
 |r,x,t::l=>bl k b p (r+1) (iA k b p r t x) l
def cS (t:Nat->Rat):Nat->Nat->List Rat
 |_,0=>[]
 |a,l+1=>t a::cS t (a+1) l
def bR (k:Nat->Rat) (b p:Nat) (t:Nat->Rat) (x:Nat->Rat):Nat->Nat->Rat
 |0=>x
 |r+1=>iA k b p r (t r) (bR k b p t x r)
variable {k:Nat->Rat} {b p:Nat}
theorem Ov {t x:Nat->Rat}:∀{l r:Nat},bl k b p r (bR k b p t x r) (cS t r l)=bR k b p t x (r+l)
 |0,r=>rfl
 |l+1,r=>by
  have:=Ov (t:=t) (x:=x) (l:=l) (r:=r+1)
  rw[show r+(l+1)=r+1+l by omega,<-this];rfl
theorem Nd {t x:Nat->Rat} {l:Nat}:bR k b p t x l=bl k b p 0 x (cS t 0 l):=by
 have:=Ov (k:=k) (b:=b) (p:=p) (t:=t) (x:=x) (l:=l) (r:=0)
 rw[Nat.zero_add]at this
 exact this.symm
theorem HU:∀{l:List Rat} {r:Nat} {x y:Nat->Rat},r+l.length=p->(∀j,r<=j->j<=p->x j=y j)->bl k b p r x l p=bl k b p r y l p
 |[],r,x,y,hl,h=>h p (by simp at hl;omega) (Nat.le_refl _)
 |t::l,r,x,y,hl,h=>by
  refine HU (l:=l) (r:=r+1) (by simp at hl;omega) fun j h1 h2=>?_
  unfold iA
  rw[if_pos (by omega),if_pos (by omega),h j (by omega) h2,h (j-1) (by omega) (by omega)]
theorem O5 {x y u v:Rat} (hu:u≠0) (hv:v≠0) (h:x*(u*v)=y*(u*v)):x=y:=by
 have:(x-y)*(u*v)=0:=by grind
 simp only[Rat.mul_eq_zero]at this
 rcases this with h1|h1|h1
 ·grind
 ·exact absurd h1 hu
 ·exact absurd h1 hv
theorem ah7 {a1 a2 b1 b2 s t x0 x1 x2:Rat} (h1:a1<b1) (h2:a2<b1) (h3:a2<b2):
  x0+fr a1 b1 s*(x1-x0)+fr a2 b1 t*(x1+fr a2 b2 s*(x2-x1)-(x0+fr a1 b1 s*(x1-x0)))=
   x0+fr a1 b1 t*(x1-x0)+fr a2 b1 s*(x1+fr a2 b2 t*(x2-x1)-(x0+fr a1 b1 t*(x1-x0))):=by
 have n1:b1-a1≠0:=by intro e;grind
 have n2:b1-a2≠0:=by intro e;grind
 have n3:b2-a2≠0:=by intro e;grind
 have e1:=nU (t:=s) h1
 have e2:=nU (t:=t) h1
 have e3:=nU (t:=s) h2
 have e4:=nU (t:=t) h2
 have e5:=nU (t:=s) h3
 have e6:=nU (t:=t) h3
 generalize fr a1 b1 s=f1s at*
 generalize fr a1 b1 t=f1t at*
 generalize fr a2 b1 s=gs at*
 generalize fr a2 b1 t=gt at*
 generalize fr a2 b2 s=f2s at*
 generalize fr a2 b2 t=f2t at*
 have c0:(1-gt)*(1-f1s)=(1-gs)*(1-f1t):=by
  refine O5 n2 n1 ?_
  have q1:(1-gt)*(b1-a2)=b1-t:=by grind
  have q2:(1-f1s)*(b1-a1)=b1-s:=by grind
  have q3:(1-gs)*(b1-a2)=b1-s:=by grind
  have q4:(1-f1t)*(b1-a1)=b1-t:=by grind
  have l1:(1-gt)*(1-f1s)*((b1-a2)*(b1-a1))=((1-gt)*(b1-a2))*((1-f1s)*(b1-a1)):=by grind
  have l2:(1-gs)*(1-f1t)*((b1-a2)*(b1-a1))=((1-gs)*(b1-a2))*((1-f1t)*(b1-a1)):=by grind
  rw[l1,l2,q1,q2,q3,q4];grind
 have c2:gt*f2s=gs*f2t:=by
  refine O5 n2 n3 ?_
  have l1:gt*f2s*((b1-a2)*(b2-a2))=(gt*(b1-a2))*(f2s*(b2-a2)):=by grind
  have l2:gs*f2t*((b1-a2)*(b2-a2))=(gs*(b1-a2))*(f2t*(b2-a2)):=by grind
  rw[l1,l2,e3,e4,e5,e6];grind
 have f1:x0+f1s*(x1-x0)+gt*(x1+f2s*(x2-x1)-(x0+f1s*(x1-x0)))=((1-gt)*(1-f1s))*x0+(1-(1-gt)*(1-f1s)-gt*f2s)*x1+(gt*f2s)*x2:=by grind
 have f2:x0+f1t*(x1-x0)+gs*(x1+f2t*(x2-x1)-(x0+f1t*(x1-x0)))=((1-gs)*(1-f1t))*x0+(1-(1-gs)*(1-f1t)-gs*f2t)*x1+(gs*f2t)*x2:=by grind
 rw[f1,f2,c0,c2]
variable {n:Nat}
theorem Y3 (h:At n k (b+p)) (hn:b+p+p<n) {s t:Rat} {x:Nat->Rat} {r j:Nat} (h1:r+2<=j) (h2:j<=p):
  iA k b p (r+1) t (iA k b p r s x) j=iA k b p (r+1) s (iA k b p r t x) j:=by
 have a1:=h.around (a:=b+(j-1)) (b:=b+(j-1)+(p-r)) (by omega) (by omega) (by omega)
 have a2:=h.around (a:=b+j) (b:=b+j+(p-(r+1))) (by omega) (by omega) (by omega)
 have a3:=h.around (a:=b+j) (b:=b+j+(p-r)) (by omega) (by omega) (by omega)
 have e:b+j+(p-(r+1))=b+(j-1)+(p-r):=by omega
 rw[e]at a2
 simp only[iA]
 rw[if_pos (by omega),if_pos (by omega),if_pos (by omega),if_pos (by omega),if_pos (by omega),if_pos (by omega),e]
 exact ah7 a1 a2 a3
theorem MK (h:At n k (b+p)) (hn:b+p+p<n) {l m:List Rat} (hp:l.Perm m):∀{r:Nat} {x:Nat->Rat},r+l.length=p->bl k b p r x l p=bl k b p r x m p:=by
 induction hp with
 |nil=>intro r x _;rfl
 |cons t _ ih=>intro r x hl;exact ih (by simp at hl;omega)
 |swap s t l=>
  intro r x hl
  refine HU (l:=l) (r:=r+2) (by simp at hl;omega) fun j h1 h2=>?_
  exact Y3 h hn h1 h2
 |trans h1 h2 ih1 ih2=>intro r x hl;rw[ih1 hl,ih2 (by rw[<-h1.length_eq];exact hl)]
def qF (t:Nat->Rat) (a:Nat):Nat->List Rat
 |0=>[]
 |l+1=>t (a+l)::qF t a l
theorem Kg {t:Nat->Rat}:∀{l a:Nat},cS t a (l+1)=cS t a l++[t (a+l)]
 |0,a=>rfl
 |l+1,a=>by
  rw[cS,Kg (l:=l) (a:=a+1),cS,List.cons_append,show a+1+l=a+(l+1) by omega]
theorem L7 {t:Nat->Rat} {a:Nat}:∀{l:Nat},(qF t a l).Perm (cS t a l)
 |0=>.nil
 |l+1=>by
  rw[Kg,qF]
  exact((L7 (l:=l)).cons _).trans (List.perm_append_singleton _ _).symm
theorem E1 {t:Nat->Rat} {m:Nat}:∀{l a:Nat},cS t a (l+m)=cS t a l++cS t (a+l) m
 |0,a=>by rw[Nat.zero_add];rfl
 |l+1,a=>by
  rw[show l+1+m=(l+m)+1 by omega,cS,E1 (l:=l) (a:=a+1),cS,List.cons_append,show a+1+l=a+(l+1) by omega]
theorem rV {t:Nat->Rat}:∀{l a:Nat},(cS t a l).length=l
 |0,_=>rfl
 |l+1,a=>by rw[cS,List.length_cons,rV]
theorem ahg {l m:List Rat}:∀{r:Nat} {x:Nat->Rat},bl k b p r x (l++m)=bl k b p (r+l.length) (bl k b p r x l) m:=by
 induction l with
 |nil=>intro r x;rfl
 |cons t l ih=>
  intro r x
  rw[List.cons_append,bl,ih,bl,List.length_cons,show r+1+l.length=r+(l.length+1) by omega]
theorem Q2 (h:At n k (b+p)) (hn:b+p+p<n) {J:Nat} (hJ:J<=p):∀{l r:Nat} {x:Nat->Rat},r+l=J->bl k b p r x (qF k (b+p+1) l) J=x J
 |0,r,x,_=>rfl
 |l+1,r,x,hr=>by
  rw[qF,bl,Q2 h hn hJ (l:=l) (r:=r+1) (by omega)]
  unfold iA
  have a1:=h.around (a:=b+J) (b:=b+J+(p-r)) (by omega) (by omega) (by omega)
  rw[if_pos (by omega),show b+p+1+l=b+J+(p-r) by omega,akl a1];grind
theorem Oj {J:Nat}:∀{l q:Nat} {x:Nat->Rat},bl k b p (J+q) x (cS k (b+J+1+q) l) (J+q+l)=x (J+q)
 |0,q,x=>rfl
 |l+1,q,x=>by
  have ih:=Oj (J:=J) (l:=l) (q:=q+1) (x:=iA k b p (J+q) (k (b+J+1+q)) x)
  rw[cS,bl,show J+q+(l+1)=J+(q+1)+l by omega,show J+q+1=J+(q+1) by omega,show b+J+1+q+1=b+J+1+(q+1) by omega,ih]
  unfold iA
  rw[if_pos (by omega),show b+J+1+q=b+(J+(q+1)) by omega,Ql,show J+(q+1)-1=J+q by omega];grind
theorem aaG (h:At n k (b+p)) (hn:b+p+p<n) {J:Nat} (hJ:J<=p) {x:Nat->Rat}:bl k b p 0 x (cS k (b+J+1) p) p=x J:=by
 have e:cS k (b+J+1) p=cS k (b+J+1) (p-J)++cS k (b+p+1) J:=by
  have:=E1 (t:=k) (l:=p-J) (a:=b+J+1) (m:=J)
  rw[show p-J+J=p by omega,show b+J+1+(p-J)=b+p+1 by omega]at this
  exact this
 have hp:(cS k (b+J+1) p).Perm (qF k (b+p+1) J++cS k (b+J+1) (p-J)):=by
  rw[e]
  exact(List.perm_append_comm).trans ((L7).symm.append_right _)
 rw[MK h hn hp (by rw[rV];omega),ahg]
 have hd:(qF k (b+p+1) J).length=J:=by rw[(L7).length_eq,rV]
 rw[hd,Nat.zero_add]
 have:=Oj (k:=k) (b:=b) (p:=p) (J:=J) (l:=p-J) (q:=0) (x:=bl k b p 0 x (qF k (b+p+1) J))
 simp only[Nat.add_zero]at this
 rw[show J+(p-J)=p by omega]at this
 rw[this]
 exact Q2 h hn hJ (l:=J) (r:=0) (by omega)
end Go.Am.B
namespace Go.Am.B
def mD (g:Nat->Bool):Nat->Nat
 |0=>0
 |m+1=>if g m then m else mD g m
theorem Sd {g:Nat->Bool} {i:Nat} (hi:g i=true):∀{m:Nat},i<m->(∀j,i<j->j<m->g j=false)->mD g m=i
 |0,h,_=>by omega
 |m+1,h,hn=>by
  unfold mD
  by_cases he:i=m
  ·subst he;rw[if_pos hi]
  ·rw[if_neg (by rw[hn m (by omega) (by omega)];decide),Sd hi (m:=m) (by omega) fun j h1 h2=>hn j h1 (by omega)]
def cM (n:Nat) (k:Nat->Rat) (t:Rat):Nat:=mD (fun i=>decide (k i<k (i+1))&&decide (k i<=t)) (n-1)
structure SH (n:Nat) (k:Nat->Rat) (t:Rat) (i:Nat):Prop where
 at_:At n k i
 lo:k i<=t
 hi:t<=k (i+1)
 TO:t<k (i+1)\/k (i+1)=k (n-1)
theorem wB {n:Nat} {k:Nat->Rat} {t:Rat} {i:Nat} (h:SH n k t i):cM n k t=i:=by
 have hw:=h.at_.wide
 have hlo:=h.lo
 refine Sd (by simp[hw,hlo]) (by have:=h.at_.lt;omega) fun j h1 h2=>?_
 rcases h.TO with h3|h3
 ·have:=gX h.at_.sorted (show i+1<=j by omega) (show j<n by omega)
  have:¬k j<=t:=by grind
  simp[this]
 ·have a1:=gX h.at_.sorted (show i+1<=j by omega) (show j<n by omega)
  have a2:=gX h.at_.sorted (show j+1<=n-1 by omega) (show n-1<n by omega)
  have:¬k j<k (j+1):=by grind
  simp[this]
theorem RA {g:Nat->Bool}:∀{m:Nat},(∃i,i<m/\g i=true)->g (mD g m)=true/\mD g m<m/\∀j,mD g m<j->j<m->g j=false
 |0,⟨i,h,_⟩=>by omega
 |m+1,⟨i,h,hi⟩=>by
  unfold mD
  by_cases hm:g m=true
  ·rw[if_pos hm];exact⟨hm,by omega,fun j h1 h2=>by omega⟩
  ·rw[if_neg hm]
   have hi':i<m:=by
    by_cases he:i=m
    ·subst he;exact absurd hi hm
    ·omega
   obtain⟨a1,a2,a3⟩:=RA (g:=g) (m:=m) ⟨i,hi',hi⟩
   refine⟨a1,by omega,fun j h1 h2=>?_⟩
   by_cases he:j=m
   ·subst he;simpa using hm
   ·exact a3 j h1 (by omega)
theorem Kn.K2 {n p:Nat} {k:Nat->Rat} (h:Kn n p k) {t:Rat} (h0:k 0<=t) (h1:t<=k (n-1)):SH n k t (cM n k t)/\p<=cM n k t/\cM n k t+p+1<n:=by
 have hp:=h.p1
 have hl:=h.len
 have hw:k p<k (p+1):=by
  have:=h.mult 1 (by omega) (by omega)
  rw[h.first 1 (by omega),show 1+p=p+1 by omega]at this
  rw[h.first p (by omega)];exact this
 obtain⟨a1,a2,a3⟩:=RA (g:=fun i=>decide (k i<k (i+1))&&decide (k i<=t)) (m:=n-1) ⟨p,by omega,by rw[h.first p (by omega)]at*;simp[hw,h0]⟩
 have e:cM n k t=mD (fun i=>decide (k i<k (i+1))&&decide (k i<=t)) (n-1):=rfl
 rw[<-e]at a1 a2 a3
 generalize cM n k t=i at*
 simp only[Bool.and_eq_true,decide_eq_true_eq]at a1
 have hat:At n k i:=⟨by omega,h.sorted,a1.1⟩
 -- from the next knot on
 have key:t<k (i+1)\/k (i+1)=k (n-1):=by
  by_cases ht:t<k (i+1)
  ·exact .inl ht
  ·refine .inr ?_
   have step:∀j,i+1<=j->j<=n-1->k j=k (i+1):=by
    intro j hj1 hj2
    induction j with
    |zero=>omega
    |succ j ih=>
     by_cases hji:j+1=i+1
     ·rw[hji]
     ·have e1:=ih (by omega) (by omega)
      have:=a3 j (by omega) (by omega)
      have hs:=h.sorted j (by omega)
      by_cases hlt:k j<k (j+1)
      ·simp[hlt]at this
       grind
      ·grind
   exact(step (n-1) (by omega) (by omega)).symm
 have hi2:t<=k (i+1):=by rcases key with h2|h2<;>grind
 refine⟨⟨hat,a1.2,hi2,key⟩,?_,?_⟩
 ·by_cases hge:p<=i
  ·exact hge
  ·exfalso
   have:=h.first i (by omega)
   have:=h.first (i+1) (by omega)
   have:=a1.1
   grind
 ·by_cases hge:i+p+1<n
  ·exact hge
  ·exfalso
   have:=h.last i (by omega) (by omega)
   have:=h.last (i+1) (by omega) (by omega)
   have:=a1.1
   grind
structure KG (p j:Nat) (k:Nat->Rat) (t:Rat):Prop where
 p1:1<=p
 first:∀i,i<=p->k i=k 0
 top:k (p+j)=t
 sorted:∀i,i<p+j->k i<=k (i+1)
 mult:∀i,1<=i->i<=j->k i<k (i+p)
 half:∀i,i<=p+j->∃z:Int,k i=(z:Rat)/2/\-4<=z/\z<=2+6*(j:Int)
def mu (k:Nat->Rat) (m:Nat) (t:Rat):Nat->Rat:=fun i=>if i=m then t else k i
theorem xp {k:Nat->Rat} {m:Nat} {t:Rat}:mu k m t m=t:=if_pos rfl
theorem nA {k:Nat->Rat} {m i:Nat} {t:Rat} (h:i≠m):mu k m t i=k i:=if_neg h
theorem KG.start {p:Nat} (hp:1<=p) {z:Int} (h1:-2<=z) (h2:z<=1):KG p 0 (fun _=>(z:Rat)) (z:Rat) where
 p1:=hp
 first:=fun _ _=>rfl
 top:=rfl
 sorted:=fun _ _=>Rat.le_refl
 mult:=fun i h1 h2=>by omega
 half:=fun i _=>⟨2*z,by
  have:((2*z:Int):Rat)=2*(z:Rat):=by simp
  rw[this];grind,by omega,by omega⟩
theorem KG.le_top {p j:Nat} {k:Nat->Rat} {t:Rat} (h:KG p j k t) {i:Nat} (hi:i<=p+j):k i<=t:=by
 rw[<-h.top]
 exact gX (n:=p+j+1) (fun i hi=>h.sorted i (by omega)) hi (by omega)
theorem KG.next {p j:Nat} {k:Nat->Rat} {t t':Rat} (h:KG p j k t) (hc:(t<t'/\∃z:Int,t'=t+(z:Rat)/2/\z<=6)\/(t'=t/\1<=j/\t≠k (j+1))):KG p (j+1) (mu k (p+1+j) t') t':=by
 have hle:t<=t':=by
  rcases hc with⟨h1,_⟩|⟨h1,_⟩
  ·grind
  ·rw[h1];exact Rat.le_refl
 have hp:=h.p1
 refine⟨hp,fun i hi=>?_,?_,fun i hi=>?_,fun i h1 h2=>?_,fun i hi=>?_⟩
 ·rw[nA (by omega),nA (by omega)];exact h.first i hi
 ·rw[show p+(j+1)=p+1+j by omega,xp]
 ·by_cases he:i+1=p+1+j
  ·rw[he,xp,nA (by omega),show i=p+j by omega,h.top];exact hle
  ·rw[nA (by omega),nA he];exact h.sorted i (by omega)
 ·by_cases he:i=j+1
  ·subst he
   rw[show j+1+p=p+1+j by omega,xp,nA (by omega)]
   have:=h.le_top (i:=j+1) (by omega)
   rcases hc with⟨h3,_⟩|⟨h3,h4,h5⟩
   ·grind
   ·rw[h3];grind
  ·rw[nA (by omega),nA (by omega)];exact h.mult i h1 (by omega)
 ·by_cases he:i=p+1+j
  ·subst he
   rw[xp]
   obtain⟨z,e1,e2,e3⟩:=h.half (p+j) (by omega)
   rw[h.top]at e1
   rcases hc with⟨h3,y,e4,e5⟩|⟨h3,_⟩
   ·refine⟨z+y,?_,?_,by omega⟩
    ·rw[e4,e1]
     have:((z+y:Int):Rat)=(z:Rat)+(y:Rat):=by simp
     rw[this];grind
    ·have hy:0<y:=by
      rcases Int.lt_or_le 0 y with h6|h6
      ·exact h6
      ·exfalso
       have:((y:Int):Rat)<=0:=Rat.intCast_nonpos.2 h6
       grind
     omega
   ·exact⟨z,by rw[h3,e1],e2,by omega⟩
  ·rw[nA he]
   obtain⟨z,e1,e2,e3⟩:=h.half i (by omega)
   exact⟨z,e1,e2,by omega⟩
def nB (p j:Nat) (k:Nat->Rat) (t:Rat):Nat->Rat:=fun i=>if i<p+1+j then k i else t+1
theorem KG.done {p j:Nat} {k:Nat->Rat} {t:Rat} (h:KG p j k t):Kn (2*p+2+j) p (nB p j k t):=by
 have hp:=h.p1
 have lo:∀{i},i<p+1+j->nB p j k t i=k i:=fun hi=>if_pos hi
 have hi':∀{i},p+1+j<=i->nB p j k t i=t+1:=fun hi=>if_neg (by omega)
 refine⟨hp,by omega,fun i hi=>?_,fun i hi=>?_,fun i h1 h2=>?_,fun i h1 h2=>?_⟩
 ·by_cases h1:i+1<p+1+j
  ·rw[lo h1,lo (by omega)];exact h.sorted i (by omega)
  ·rw[hi' (i:=i+1) (by omega)]
   by_cases h2:i<p+1+j
   ·rw[lo h2]
    have:=h.le_top (i:=i) (by omega)
    grind
   ·rw[hi' (by omega)];exact Rat.le_refl
 ·rw[lo (i:=i) (by omega),lo (i:=0) (by omega)];exact h.first i hi
 ·rw[hi' (i:=i) (by omega),hi' (i:=2*p+2+j-1) (by omega)]
 ·by_cases h3:i+p<p+1+j
  ·rw[lo (by omega),lo h3];exact h.mult i h1 (by omega)
  ·rw[hi' (i:=i+p) (by omega),lo (i:=i) (by omega)]
   have:=h.le_top (i:=i) (by omega)
   grind
theorem KG.Ks {p j:Nat} {k:Nat->Rat} {t:Rat} (h:KG p j k t) (i:Nat):∃z:Int,nB p j k t i=(z:Rat)/2/\-4<=z/\z<=4+6*(j:Int):=by
 unfold nB
 split
 ·rename_i hi
  obtain⟨z,e1,e2,e3⟩:=h.half i (by omega)
  exact⟨z,e1,e2,by omega⟩
 ·obtain⟨z,e1,e2,e3⟩:=h.half (p+j) (by omega)
  rw[h.top]at e1
  refine⟨z+2,?_,by omega,by omega⟩
  have:((z+2:Int):Rat)=(z:Rat)+2:=by simp
  rw[e1,this];grind
open AV
def aL:AV->Rat
 |.rat q _=>q
 |_=>0
def bt (f:Nat->AV) (n s:Nat):Prop:=∀i,i<n->bN (f i) (.rat (aL (f i)) s)
abbrev br (k:Nat->Rat) (n s:Nat):AV:=.aq 3 n (fun i=>.rat (k i) s)
theorem bP {k:Nat->Rat} {n s s':Nat} (h:s<=s'):bt (fun i=>.rat (k i) s) n s':=fun _ _=>eR h
theorem AX {f:Nat->AV} {n s:Nat} (h:bt f n s):bN (.aq 3 n f) (br (fun i=>aL (f i)) n s):=dS h
def CH:AV->Option (Nat×(Nat->AV))
 |.aq 3 n f=>some (n,f)
 |.nil=>some (0,fun _=>.rat 0 1)
 |_=>none
theorem ab0 {v:AV} {n s:Nat} {f:Nat->AV} (h:CH v=some (n,f)) (ha:bt f n s):bN v (br (fun i=>aL (f i)) n s):=by
 unfold CH at h
 split at h
 ·simp only[az,Prod.mk.injEq]at h
  obtain⟨rfl,rfl⟩:=h
  exact AX ha
 ·simp only[az,Prod.mk.injEq]at h
  obtain⟨rfl,rfl⟩:=h
  exact ic aa
 ·simp at h
open Go Go.Am.N AV
theorem aez:aT P SZ KE (ay KE):=aU Proofs.Tryz.func13 ag ag ag
def NL:bf:=[(SZ,iz T (sG::(LV,Sn)::nr) [] 60 KE)]
theorem ae4:bu P NL:=aI (iU hT (j7 (aI ana oy)) hm aez _ _) bz
def kL (s:Nat):Kind (Nat×(Nat->Rat)):=⟨fun v=>match CH v with
 |some (n,f)=>some ((n,fun i=>aL (f i)),[bt f n s])
 |none=>none,fun a=>br a.2 a.1 s,fun {v a q} h hq=>by
  split at h
  ·rename_i h1
   simp only[az,Prod.mk.injEq]at h
   obtain⟨rfl,rfl⟩:=h
   exact ab0 h1 hq
  ·simp at h⟩
def gN (s:Nat):Kind Rat:=⟨fun v=>match jQ v with
 |some (q,n)=>some (q,[n<=s])
 |none=>none,fun a=>.rat a s,fun {v a q} h hq=>by
  split at h
  ·rename_i h1
   simp only[az,Prod.mk.injEq]at h
   obtain⟨rfl,rfl⟩:=h
   exact(kX h1).trans (eR hq)
  ·simp at h⟩
structure rB (α:Type) where
 read:List AV->Option (α×List Prop)
 make:α->List AV
 ok:∀{l:List AV} {a:α} {q:List Prop},read l=some (a,q)->aA q->fq l (make a)
def kN:rB Unit:=⟨fun l=>match l with
 |[]=>some ((),[])
 |_=>none,fun _=>[],fun {l a q} h _=>by
  split at h
  ·trivial
  ·simp at h⟩
def kC {α β:Type} (k:Kind α) (kl:rB β):rB (α×β):=⟨fun l=>match l with
 |v::l=>match k.read v,kl.read l with
  |some (a,p),some (b,q)=>some ((a,b),p++q)
  |_,_=>none
 |[]=>none,fun a=>k.make a.1::kl.make a.2,fun {l a q} h hq=>by
  split at h
  ·split at h
   ·rename_i h1 h2
    simp only[az,Prod.mk.injEq]at h
    obtain⟨rfl,rfl⟩:=h
    obtain⟨q1,q2⟩:=dD.1 hq
    exact⟨k.ok h1 q1,kl.ok h2 q2⟩
   ·simp at h
  ·simp at h⟩
def cq {α:Type} (k:rB α) (g:α->AV) (need:α->List Prop):Spec:=bY fun l=>match k.read l with
 |some (a,p)=>some (aJ (g a) (p++need a))
 |none=>none
theorem ck {α:Type} {f:FuncId} {k:rB α} {g:α->AV} {need:α->List Prop} (h:∀a K,aA (need a)->aQ P f K (k.make a) [] (aJ (g a) [])):aW P (cq k g need) f:=by
 refine cJ fun K args r hk hs _=>?_
 split at hs
 ·rename_i h1
  simp only[az]at hs
  subst hs
  intro hn
  obtain⟨n1,hn⟩:=dD.1 hn
  exact gZ (h _ K hn) hk (k.ok h1 n1) [] trivial
 ·simp at hs
open Go Go.Am.N AV ah ax IntKind
theorem aaP:aT P vJ CC (ay CC):=aU Proofs.Tryz.func188 ag ag ag
theorem an4:aT P Ac Cg (ay Cg):=aU Proofs.Tryz.func157 ag ag ag
def ir:bf:=nG::vU
def nW:bf:=nG::nr
abbrev sK:Nat:=4096
abbrev ls (k:Nat->Rat) (n:Nat):AV:=br k n sK
abbrev tP (t:Rat) (s:Nat):ak:=⟨false,true,3,1,fun _=>.rat t s⟩
abbrev z7:List Nat:=[0,5,8,9,6,7]
abbrev Mo (n:Nat) (k:Nat->Rat) (l i:Nat):List AV:=[ls k n,.ptr 0 0 3 0 [],.int .i64 l,.int .i64 i,.int .i64 0,.int .i64 0]
abbrev xG:Code:=ay CC
theorem acE {n:Nat} {k:Nat->Rat} {p:Int} {t:Rat}:aG T ir [200013,21,31] 60 z7 (before xG [1,1,1,0,1]) ⟨aP 0 [ls k n,.int .i64 p,.rat t sK],[],0⟩=
  let c11:Prop:=((↑n:Int)==0)=false;let c10:Prop:=0<1;let c9:AV:=aq 3 n fun i=>rat (k i) 4096;let c8:Nat:=Int.toNat (0:Int);let c7:AV:=ptr 0 0 (aV (rat t sK)).size 0 [];let c6:AV:=int i64 0;let c5:Nat×ak:=(0,ak.mk false true (aV (rat t sK)).size 1 fun x=>rat t 4096);let c4:Int:=(↑n:Int)-1;let c12:Prop:=(0:Int)<=0/\c8<n;let c3:Bool:=bif false then true else decide (eV t (k c8)<0);let c2:ah (List AV×aE):=leaf ret ([c9,c7,tuple [],tuple [],c6,int i64 7],[c5]);let c1:ah (List AV×aE):=leaf normal ([c9,c7,c6,c6,c6,c6],[c5]);some (fork c3 (aj [c11,c10,c12,c3=true] (fork true c2 c1)) (aj [c11,c10,c12,c3=false,c10,-(2:Int)^63<=c4/\c4<2^63,(0:Int)<=c4/\c4.toNat<n] (fork (bif false then true else decide (eV t (k c4.toNat)>0)) c2 c1))):=ag
theorem ahh {n l i:Nat} {k:Nat->Rat} {t:Rat}:aG T ir [36,49,58] 60 z7 [part xG [1,1,1,0,1,0,0]] ⟨aB z7 (Mo n k l i),[(0,tP t sK)],1⟩=
  let c7:Int:=(↑i:Int);let c6:List AV:=[int i64 0,int i64 0];let c5:AV:=ptr 0 0 3 0 [];let c4:AV:=aq 3 n fun i=>rat (k i) 4096;let c2:Nat×ak:=((0:Nat),aS fun x=>rat t 4096);let c10:AV:=int i64 c7;let c1:Int:=c7+1;let c8:Int:=eV (k c7.toNat) (k c1.toNat);let c3:Prop:=-(2:Int)^63<=c1/\c1<2^63;let c9:List Prop:=[c3,(0:Int)<=c1/\c1.toNat<n];some (aj [c3] (fork (decide (c1<(↑n:Int))) (aj (((0:Int)<=c7/\c7.toNat<n)::c9) (fork (decide (c8>=0)) (aj [c3] (leaf normal (c4::c5::int i64 (↑l:Int)::int i64 c1::c6,[c2]))) (aj (((0:Nat)<1)::c9) (fork (decide (eV t (k c1.toNat)<0)) (leaf (exit 0) (c4::c5::c10::c10::c6,[c2])) (aj [c3] (leaf normal (c4::c5::c10::int i64 c1::c6,[c2]))))))) (leaf (exit 0) (c4::c5::int i64 (↑l:Int)::c10::c6,[c2])))):=ag
theorem VF {n l i:Nat} {k:Nat->Rat} {t:Rat}:cj T ir [] 60 CC [part xG [1,1,1,1]] ⟨aB z7 (Mo n k l i),[(0,tP t sK)],1⟩=
  some (leaf ret [int i64 (↑l:Int),int i64 0]):=ag
abbrev xH:List Nat:=[0,5,9,6,7]
abbrev yN (n:Nat) (k:Nat->Rat) (i:Nat):List AV:=[ls k n,.ptr 0 0 3 0 [],.int .i64 i,.int .i64 0,.int .i64 0]
abbrev zc:Code:=ay Cg
theorem ak7 {n p:Nat} {k:Nat->Rat} {t:Rat}:aG T nW [19,27] 60 xH (before zc [1,1,1,1,0]) ⟨aP 0 [ls k n,.int .i64 p,.rat t sK],[],0⟩=
  let c13:AV:=int i64 0;let c12:Prop:=0<1;let c10:Prop:=(0:Int)<=0/\Int.toNat (0:Int)<n;let c9:AV:=aq 3 n fun i=>rat (k i) 4096;let c7:AV:=ptr 0 0 (aV (rat t sK)).size 0 [];let c6:Nat×ak:=(0,ak.mk false true (aV (rat t sK)).size 1 fun x=>rat t 4096);let c5:Int:=(2:Int)^63;let c4:Int:=eV t (k (Int.toNat (0:Int)));let c3:Int:=(↑n:Int)-1;let c14:Int:=c3-(↑p:Int);let c11:Bool:=decide (c4<0);let c2:ah (List AV×aE):=leaf ret ([c9,c7,tuple [],c13,int i64 7],[c6]);let c8:Int:=c14-1;let c1:ah (List AV×aE):=aj [-c5<=c14/\c14<c5,-c5<=c8/\c8<c5] (leaf normal ([c9,c7,int i64 c8,c13,c13],[c6]));some (aj [-c5<=c3/\c3<c5] (fork c11 (aj [c12,c10,c11=true] (fork true c2 c1)) (aj [c12,c10,c11=false,c12,(0:Int)<=c3/\c3.toNat<n] (fork (bif false then true else decide (eV t (k c3.toNat)>0)) c2 c1)))):=ag
theorem af9 {n i:Nat} {k:Nat->Rat} {t:Rat}:aG T nW [34,42] 60 xH [part zc [1,1,1,1,0,0,0]] ⟨aB xH (yN n k i),[(0,tP t sK)],1⟩=
  let c7:AV:=int i64 0;let c6:AV:=ptr 0 0 3 0 [];let c5:AV:=aq 3 n fun i=>rat (k i) 4096;let c4:Nat×ak:=((0:Nat),aS fun x=>rat t 4096);let c3:Int:=(↑i:Int);let c9:Int:=c3-1;let c8:Bool:=decide (c3>0);let c2:ah (List AV×aE):=leaf (exit 0) ([c5,c6,int i64 c3,c7,c7],[c4]);let c1:ah (List AV×aE):=aj [-(2:Int)^63<=c9/\c9<2^63] (leaf normal ([c5,c6,int i64 c9,c7,c7],[c4]));some (fork c8 (aj [c8=true,(0:Nat)<1,(0:Int)<=c3/\c3.toNat<n] (fork (bif true then decide (eV t (k c3.toNat)<0)else false) c1 c2)) (aj [c8=false] (fork false c1 c2))):=ag
theorem adO {n i:Nat} {k:Nat->Rat} {t:Rat}:cj T nW [] 60 Cg [part zc [1,1,1,1,1]] ⟨aB xH (yN n k i),[(0,tP t sK)],1⟩=
  some (leaf ret [int i64 (↑i:Int),int i64 0]):=ag
theorem mB:bu P ir:=cz xO
theorem Mt:bu P nW:=cz oy
theorem xE {q:Rat} {n:Nat}:aL (.rat q n)=q:=rfl
theorem UN:max 1 (bQ (Int.natAbs 1))=1:=by decide
theorem yE {a b:Rat}:eV a b>=0↔b<=a:=by
 have:=@ni a b
 constructor
 ·intro h
  have:¬a<b:=fun h'=>by have:=ni.2 h';omega
  grind
 ·intro h
  have:¬eV a b<0:=fun h'=>by have:=ni.1 h';grind
  omega
theorem kU {rl:List (Nat×Nat)} {l i s s' s2:Nat} {x y:Nat->Rat} {t:Rat} (hx:∀i,i<l->x i=y i) (ht:t=y l) (h1:s<=s2) (h2:s'<=s2) (hi:i<l+1):eZ rl (if i<l then .rat (x i) s else nth [.rat t s'] (.rat 0 1) (i-l+0)) (.rat (y i) s2):=by
 by_cases h:i<l
 ·rw[if_pos h,hx i h];exact .inr ⟨rfl,bO rfl h1⟩
 ·have:i=l:=aa
  subst this
  rw[if_neg h,Nat.sub_self,ht]
  exact .inr ⟨rfl,bO rfl h2⟩
def dI (n:Nat) (k:Nat->Rat) (t:Rat):Prop:=t<k 0\/k (n-1)<t
instance {n:Nat} {k:Nat->Rat} {t:Rat}:Decidable (dI n k t):=inferInstanceAs (Decidable (t<k 0\/k (n-1)<t))
def fI (n:Nat) (k:Nat->Rat) (t:Rat):Nat:=if dI n k t then 0 else cM n k t
def cX (n:Nat) (k:Nat->Rat) (t:Rat):Int:=if dI n k t then 7 else 0
abbrev uo (n:Nat) (k:Nat->Rat) (t:Rat):AV:=.tuple [.int .i64 (fI n k t),.int .i64 (cX n k t)]
theorem Cs {n:Nat} {k:Nat->Rat} {t:Rat} (h:dI n k t):fj [.int .i64 0,.int .i64 7] (uo n k t):=
 ⟨bK (by unfold fI;rw[if_pos h];rfl),bK (by unfold cX;rw[if_pos h]),trivial⟩
theorem TC {n i:Nat} {k:Nat->Rat} {t:Rat} (h:¬dI n k t) (hi:i=cM n k t):fj [.int .i64 i,.int .i64 0] (uo n k t):=
 ⟨bK (by unfold fI;rw[if_neg h,hi]),bK (by unfold cX;rw[if_neg h]),trivial⟩
abbrev vF (k:Nat->Rat) (t:Rat) (i:Nat):Nat:=mD (fun i=>decide (k i<k (i+1))&&decide (k i<=t)) i
theorem Ri {g:Nat->Bool} {m:Nat}:mD g (m+1)=if g m then m else mD g m:=rfl
theorem adf {n p0:Nat} {k:Nat->Rat} {p:Int} {t:Rat} (h:Kn n p0 k) (hn:n<2^40) (K:Nat):aQ P vJ K [ls k n,.int .i64 p,.rat t sK] [] (aJ (uo n k t) []):=by
 have hp:=h.p1
 have hl:=h.len
 refine ij (r:=aJ (uo n k t) []) hT mB hm aaP rfl aX rfl [1,1,1,0,1] (i:=0) (y:=part xG [1,1,1,0,1,0,0]) (z:=part xG [1,1,1,1]) ag ag ag (f1:=[200013,21,31]) (f2:=[36,49,58]) (f3:=[]) 60 z7 1
  (fun a:Nat×Nat=>Mo n k a.2 a.1) (fun _=>[(0,tP t sK)]) (fun a=>a.1+1<=n/\a.2=vF k t a.1/\k a.1<=t/\¬dI n k t) (fun a=>a.2=cM n k t/\¬dI n k t) (fun a=>n-a.1) (fun _=>⟨⟨_,acE,?_⟩,fun⟨i,l⟩ ⟨h1,h2,h3,h4⟩=>⟨_,ahh,?_⟩,fun⟨i,l⟩ ⟨h1,h2⟩=>⟨_,VF,TC h2 h1⟩⟩) K []
 ·simp only[ah.all,aA,bq,bw,ni,vN,cond_false,Int.toNat_zero,beq_eq_false_iff_ne,ne_eq,show((n:Int)-1).toNat=n-1 by omega]
  (repeat' with_reducible first|refine And.intro ?_ ?_|intro _)
  all_goals first|omega|assumption|skip
  ·exact⟨_,ag,Cs (.inl ‹_›)⟩
  ·exact absurd ‹true=false› (by decide)
  ·exact⟨_,ag,Cs (.inr ‹_›)⟩
  ·rename_i a b
   have hin:¬dI n k t:=fun h=>h.elim (fun h=>a h) fun h=>b h
   exact⟨(0,0),⟨aa,rfl,by show k 0<=t;grind,hin⟩,[(0,0)],rfl,rfl,rfl,aC trivial⟩
 ·have hs:∀i,i+1<n->k i<=k (i+1):=h.sorted
  simp only at h1 h2 h3
  simp only[ah.all,aA,bq,bw,ni,yE,bn,show((i:Int)+1).toNat=i+1 by omega]
  (repeat' with_reducible first|refine And.intro ?_ ?_|intro _)
  all_goals first|omega|assumption|skip
  ·rename_i hi hge
   have:=hs i aa
   have e:vF k t (i+1)=vF k t i:=by
    have:¬k i<k (i+1):=by grind
    rw[vF,Ri,if_neg (by simp[this])]
   exact⟨(i+1,l),⟨aa,h2.trans e.symm,by show k (i+1)<=t;grind,h4⟩,by dsimp only;omega,[(0,0)],rfl,rfl,rfl,aC trivial⟩
  ·rename_i hi hlt hb
   have:k i<k (i+1):=by grind
   have hiv:cM n k t=i:=wB ⟨⟨aa,hs,this⟩,h3,by grind,.inl hb⟩
   exact⟨rfl,(i,i),⟨hiv.symm,h4⟩,[(0,0)],rfl,rfl,rfl,aC trivial⟩
  ·rename_i hi hlt hb
   have:k i<k (i+1):=by grind
   have e:vF k t (i+1)=i:=by
    rw[vF,Ri,if_pos (by simp[this,h3])]
   exact⟨(i+1,i),⟨aa,e.symm,by show k (i+1)<=t;grind,h4⟩,by dsimp only;omega,[(0,0)],rfl,rfl,rfl,aC trivial⟩
  ·have hin:i=n-1:=aa
   subst hin
   exact⟨rfl,(n-1,l),⟨h2,h4⟩,[(0,0)],rfl,rfl,rfl,aC trivial⟩
theorem aof {n p:Nat} {k:Nat->Rat} {t:Rat} (h:Kn n p k) (hn:n<2^40) (K:Nat):aQ P Ac K [ls k n,.int .i64 p,.rat t sK] [] (aJ (uo n k t) []):=by
 have hp:=h.p1
 have hl:=h.len
 refine ij (r:=aJ (uo n k t) []) hT Mt hm an4 rfl aX rfl [1,1,1,1,0] (i:=0) (y:=part zc [1,1,1,1,0,0,0]) (z:=part zc [1,1,1,1,1]) ag ag ag (f1:=[19,27]) (f2:=[34,42]) (f3:=[]) 60 xH 1
  (fun i:Nat=>yN n k i) (fun _=>[(0,tP t sK)]) (fun i=>i+p+2<=n/\(∀j,i<j->j+p+2<=n->t<k j)/\¬dI n k t) (fun i=>i=cM n k t/\¬dI n k t) (fun i=>i) (fun _=>⟨⟨_,ak7,?_⟩,fun i ⟨h1,h2,h4⟩=>⟨_,af9,?_⟩,fun i ⟨h1,h2⟩=>⟨_,adO,TC h2 h1⟩⟩) K []
 ·simp only[ah.all,aA,bq,bw,ni,vN,cond_false,Int.toNat_zero,show((n:Int)-1).toNat=n-1 by omega]
  (repeat' with_reducible first|refine And.intro ?_ ?_|intro _)
  all_goals first|omega|assumption|skip
  ·exact⟨_,ag,Cs (.inl ‹_›)⟩
  ·exact absurd ‹true=false› (by decide)
  ·exact⟨_,ag,Cs (.inr ‹_›)⟩
  ·rename_i a b
   have hin:¬dI n k t:=fun h=>h.elim (fun h=>a h) fun h=>b h
   refine⟨n-p-2,⟨aa,fun j h1 h2=>aa,hin⟩,[(0,0)],rfl,?_,rfl,aC trivial⟩
   rw[show(n:Int)-1-(p:Int)-1=((n-p-2:Nat):Int) by omega]
   rfl
 ·simp only[ah.all,aA,bq,bw,ni,bn,cond_true]
  have hin:k 0<=t/\t<=k (n-1):=by
   constructor
   ·have:¬t<k 0:=fun h=>h4 (.inl h)
    grind
   ·have:¬k (n-1)<t:=fun h=>h4 (.inr h)
    grind
  have fin:k i<=t->i=cM n k t:=fun h3=>by
   by_cases hi:i+p+2<n
   ·have h5:=h2 (i+1) aa aa
    exact(wB ⟨⟨aa,h.sorted,by grind⟩,h3,by grind,.inl h5⟩).symm
   ·have e1:=h.last (i+1) aa aa
    have e2:=h.last (i+p) aa aa
    have e3:=h.mult i aa aa
    exact(wB ⟨⟨aa,h.sorted,by rw[e1,<-e2];exact e3⟩,h3,by rw[e1];exact hin.2,.inr e1⟩).symm
  (repeat' with_reducible first|refine And.intro ?_ ?_|intro _)
  all_goals first|omega|assumption|skip
  ·rename_i a b
   refine⟨i-1,⟨aa,fun j h5 h6=>?_,h4⟩,by dsimp only;omega,[(0,0)],rfl,?_,rfl,aC trivial⟩
   ·by_cases hj:j=i
    ·subst hj;exact b
    ·exact h2 j aa h6
   ·rw[show(i:Int)-1=((i-1:Nat):Int) by omega];rfl
  ·rename_i a b
   exact⟨rfl,i,⟨fin (by grind),h4⟩,[(0,0)],rfl,rfl,rfl,aC trivial⟩
  ·exact absurd ‹false=true› (by decide)
  ·have hi:i=0:=aa
   subst hi
   exact⟨rfl,0,⟨fin hin.1,h4⟩,[(0,0)],rfl,rfl,rfl,aC trivial⟩
abbrev TA:rB ((Nat×(Nat->Rat))×Int×Rat×Unit):=kC (kL sK) (kC kI (kC (gN sK) kN))
def sw:Spec:=cq TA (fun a=>uo a.1.1 a.1.2 a.2.2.1) fun a=>[Kn a.1.1 a.2.1.toNat a.1.2,0<=a.2.1,a.1.1<2^40]
theorem Ku:aW P sw vJ:=ck fun _ K hn=>adf hn.1 hn.2.2 K
theorem Us:aW P sw Ac:=ck fun⟨⟨n,k⟩,p,t,_⟩ K hn=>by
 have:=aof hn.1 hn.2.2 K (t:=t)
 rw[Int.toNat_of_nonneg hn.2.1]at this
 exact this
theorem abW:aT P E5 FU (ay FU):=aU Proofs.Tryz.func278 ag ag ag
theorem QG:aT P Dm zW (ay zW):=aU Proofs.Tryz.func232 ag ag ag
def Nx:bf:=(zL,jC kR kR C3 r6)::iR
theorem aac {a b t:Rat} {n:Nat}:bU T Nx [] 60 FU (ay FU) ⟨aP 0 [.rat a n,.rat b n,.rat t n],[],0⟩=
  let c3:Nat:=n+n+1;let c2:Nat:=2^42;let c1:Prop:=0<1;some (aj [c1,c1,n<c2,n<c2,c1,c1,n<c2,n<c2,c3<c2,c3<c2,c1] (aj [c1,c1] (aj [c1] (leaf ret [rat ((t-a)/(b-a)) (c3+c3)])))):=ag
abbrev sF:Nat:=16386
def Lx:Spec:=cq (kC (gN sK) (kC (gN sK) (kC (gN sK) kN))) (fun a=>.rat (fr a.1 a.2.1 a.2.2.1) sF) fun _=>[]
theorem afN:bu P Nx:=aI (jY fun _ _ K hn=>Lh hn.1 hn.2 K) jU
theorem Tq:aW P Lx E5:=ck fun⟨a,b,t,_⟩ K _=>by
 refine bZ (r:=aJ (.rat (fr a b t) sF) []) hT afN hm abW rfl aX rfl 60 aac (fun _=>?_) K []
 simp only[ah.all,aA]
 have h1:sK=4096:=rfl
 (repeat' with_reducible refine And.intro ?_ ?_)
 all_goals first|omega|exact(bO rfl (show sK+sK+1+(sK+sK+1)<=sF by decide))
def tD:bf:=nG::(vJ,sw)::(E5,Lx)::(vk,E7)::iR
def SB (d:Nat):Nat:=65536*4^d
abbrev HB (d:Nat):Nat:=1+(sF+SB d)+1
abbrev nZ:List Nat:=[0,1,5,9,11,12,6,7,8]
abbrev vt (n:Nat) (k:Nat->Rat) (p i d:Nat):List AV:=[ls k n,.int .i64 p,.ptr 0 0 3 0 [],.int .i64 i,.own 2 3 0 (d+1),.int .i64 ((d+1:Nat):Int),.int .i64 0,.nil,.int .i64 0]
abbrev kz (m:Nat) (x:Nat->Rat) (s:Nat->Nat):ak:=⟨true,true,3,m,fun i=>.rat (x i) (s i)⟩
abbrev DR:Code:=ay zW
abbrev wP:Code:=part DR [1,1,1,1,1,0,1,0,0]
abbrev rU:Code:=part wP [1,0,0]
abbrev y7:List Nat:=[0,1,5,9,12,13,54,55,56,6,7,8]
abbrev HJ (n:Nat) (k:Nat->Rat) (p i d j:Nat):List AV:=[ls k n,.int .i64 p,.ptr 0 0 3 0 [],.int .i64 i,.int .i64 ((d+1:Nat):Int),.own 3 3 0 (d+2),.own 2 3 0 (d+1),.int .i64 ((d+1:Nat):Int),.int .i64 j,.int .i64 0,.nil,.int .i64 0]
theorem ahn {n p:Nat} {k:Nat->Rat} {t:Rat}:aG T tD [26,30,36,43] 60 nZ (before DR [1,1,1,1,1,0,1]) ⟨aP 0 [ls k n,.int .i64 p,.rat t sK],[],0⟩=
  let c13:Int:=cX n (fun i=>aL (rat (k i) sK)) t;let c12:AV:=int i64 0;let c9:AV:=aq 3 n fun i=>rat (k i) 4096;let c7:AV:=ptr 0 0 (aV (rat t sK)).size 0 [];let c6:Int:=(2:Int)^63;let c5:Nat×ak:=(0,ak.mk false true (aV (rat t sK)).size 1 fun x=>rat t 4096);let c4:Int:=(↑p:Int);let c3:Int:=(↑(fI n (fun i=>aL (rat (k i) sK)) t):Int);let c15:Prop:=-c6<=c3-c4/\c3-c4<c6;let c14:Prop:=-c6<=c3+c4/\c3+c4<c6;let c11:Bool:=bif false then true else decide (c3+c4>=(↑n:Int));let c10:Bool:=decide (c4<0);let c8:Bool:=bif false then true else decide (c3-c4<0);let c2:ah (List AV×aE):=leaf ret ([c9,int i64 c4,c7,int i64 c3,tuple [],tuple [],c12,nil,int i64 7],[c5]);let c1:ah (List AV×aE):=aj [(1:Nat)*3<=2^24] (leaf normal ([c9,int i64 c4,c7,int i64 c3,own 131072 3 0 1,int i64 1,c12,nil,c12],[(131072,ak.mk true true 3 1 fun i=>nth [rat (↑(1:Int):Rat) (Max.max 1 (bQ (Int.natAbs (1:Int))))] (rat 0 1) i),c5]));some (aj [(0:Nat)<1,bt (fun i=>rat (k i) sK) n sK,sK<=sK,Kn n c4.toNat fun i=>aL (rat (k i) sK),(0:Int)<=c4,n<2^40] (fork (c13 !=(0:Int)) (leaf ret ([c9,int i64 c4,c7,int i64 c3,tuple [],tuple [],c12,nil,int i64 c13],[c5])) (fork false (fork true (aj [c10=true,true=true] (fork true c2 c1)) (aj [c10=true,true=false,c14] (fork c11 c2 c1))) (fork c8 (aj [c10=false,c15,c8=true] (fork true c2 c1)) (aj [c10=false,c15,c8=false,c14] (fork c11 c2 c1)))))):=ag
theorem abR {n p i d:Nat} {k x:Nat->Rat} {t:Rat}:aG T tD [48] 60 nZ (before wP [1,0]) ⟨aB nZ (vt n k p i d),[(2,kz (d+1) x fun _=>SB d),(0,tP t sK)],3⟩=
  let c2:Int:=(↑(d+1):Int);let c1:List AV×aE:=([aq 3 n fun i=>rat (k i) 4096,int i64 (↑p:Int),ptr 0 0 3 0 [],int i64 (↑i:Int),own 2 3 0 (d+1),int i64 c2,int i64 0,nil,int i64 0],[(2,ak.mk true true 3 (d+1) fun i=>rat (x i) (SB d)),((0:Nat),aS fun x=>rat t 4096)]);some (fork (decide (c2<=(↑p:Int))) (leaf normal c1) (leaf (exit 0) c1)):=ag
theorem amg {n p i d:Nat} {k x:Nat->Rat} {t:Rat}:aG T tD [] 60 y7 (before rU [1,0,1]) ⟨aB nZ (vt n k p i d),[(2,kz (d+1) x fun _=>SB d),(0,tP t sK)],3⟩=
  let c3:AV:=int i64 0;let c2:Int:=(↑(d+1):Int);let c1:Int:=c2+1;some (aj [-(2:Int)^63<=c1/\c1<2^63,(0:Int)<=c1/\c1<=c1/\c1<=2^47/\c1*(↑(56:Nat):Int)<=2^47] (leaf normal ([aq 3 n fun i=>rat (k i) 4096,int i64 (↑p:Int),ptr 0 0 3 0 [],int i64 (↑i:Int),int i64 c2,own 8195 3 0 c1.toNat,own 2 3 0 (d+1),int i64 c2,c3,c3,nil,c3],[(2,ak.mk true true 3 (d+1) fun i=>rat (x i) (SB d)),(8195,ak.mk true true 3 c1.toNat fun x=>rat 0 1),((0:Nat),aS fun x=>rat t 4096)]))):=ag
theorem aeA {n p i d j:Nat} {k x y:Nat->Rat} {s:Nat->Nat} {t:Rat}:aG T tD [57] 60 y7 [part rU [1,0,1,0,0]] ⟨aB y7 (HJ n k p i d j),[(3,kz (d+2) y s),(2,kz (d+1) x fun _=>SB d),(0,tP t sK)],4⟩=
  let c20:AV:=int i64 0;let c19:AV:=ptr 0 0 3 0 [];let c18:AV:=aq 3 n fun i=>rat (k i) 4096;let c16:Nat:=d+1;let c13:Nat×ak:=((0:Nat),aS fun x=>rat t 4096);let c11:Int:=(↑j:Int);let c10:Prop:=0<1;let c9:Nat:=d+2;let c8:Nat:=Max.max 1 (bQ (Int.natAbs (1:Int)));let c7:Nat:=2^42;let c5:Int:=(2:Int)^63;let c25:Prop:=(0:Int)<=c11/\c11.toNat<c9;let c23:Nat:=c8+sF+1;let c22:AV:=own 3 3 0 c9;let c21:AV:=own 2 3 0 c16;let c12:Nat×ak:=(2,ak.mk true true 3 c16 fun i=>rat (x i) (SB d));let c6:Int:=c11+1;let c4:Nat:=c11.toNat+0;let c3:Int:=(↑c16:Int);let c29:AV:=int i64 c3;let c27:Prop:=(0:Int)<=c6/\c6.toNat<c9;let c24:Prop:=-c5<=c6/\c6<c5;let c17:Int:=(↑i:Int)-c3;let c2:Nat:=c6.toNat+0;let c28:Int:=c17+1;let c26:Nat:=s c2+(sF+SB d)+1;let c15:Nat:=bif c4==c2 then c26 else s c4;let c1:Int:=c28+c11;let c14:Rat:=fr (k c1.toNat) (k (c1+c3).toNat) t;some (fork (decide (c11<c3)) (aj [(0:Int)<=c11/\c11.toNat<c16,c4<c16,c10] (aj [-c5<=c17/\c17<c5,-c5<=c28/\c28<c5,-c5<=c1/\c1<c5] (aj [(0:Int)<=c1/\c1.toNat<n,-c5<=c1+c3/\c1+c3<c5,(0:Int)<=c1+c3/\(c1+c3).toNat<n,c10,sK<=sK,sK<=sK,sK<=sK,c10] (aj [c24,c24,c27,c2<c9,c10,c10,sF<c7,SB d<c7,s c2<c7,sF+SB d<c7,c27,c2<c9] (aj [c25,c4<c9,c10,c8<c7,sF<c7,c10,c23<c7,SB d<c7,c15<c7,c23+SB d<c7,c25,c4<c9] (aj [c24] (leaf normal ([c18,int i64 (↑p:Int),c19,int i64 (↑i:Int),c29,c22,c21,c29,int i64 c6,c20,nil,c20],[c12,(3,ak.mk true true 3 c9 fun j=>rat (bif j==c4 then(bif c4==c2 then y c2+c14*x c4 else y c4)+((↑(1:Int):Rat)-c14)*x c4 else bif j==c2 then y c2+c14*x c4 else y j) (bif j==c4 then c15+(c23+SB d)+1 else bif j==c2 then c26 else s j)),c13])))))))) (leaf (exit 2) ([c18,int i64 (↑p:Int),c19,int i64 (↑i:Int),c29,c22,c21,c29,int i64 c11,c20,nil,c20],[c12,(3,ak.mk true true 3 c9 fun i=>rat (y i) (s i)),c13]))):=ag
theorem aoe {n p i d j:Nat} {k x y:Nat->Rat} {s:Nat->Nat} {t:Rat}:aG T tD [] 60 nZ [part rU [1,1],part wP [1,1]] ⟨aB y7 (HJ n k p i d j),[(3,kz (d+2) y s),(2,kz (d+1) x fun _=>SB d),(0,tP t sK)],4⟩=
  let c1:Int:=(↑(d+1):Int)+1;some (aj [-(2:Int)^63<=c1/\c1<2^63] (leaf normal ([aq 3 n fun i=>rat (k i) 4096,int i64 (↑p:Int),ptr 0 0 3 0 [],int i64 (↑i:Int),own 3 3 0 (d+2),int i64 c1,int i64 0,nil,int i64 0],[(3,ak.mk true true 3 (d+2) fun i=>rat (y i) (s i)),((0:Nat),aS fun x=>rat t 4096)]))):=ag
theorem acK {n p i d:Nat} {k x:Nat->Rat} {t:Rat}:cj T tD [] 60 zW [part DR [1,1,1,1,1,1]] ⟨aB nZ (vt n k p i d),[(2,kz (d+1) x fun _=>SB d),(0,tP t sK)],3⟩=
  let c1:Int:=(↑i:Int)-(↑p:Int);some (aj [-(2:Int)^63<=c1/\c1<2^63] (leaf ret [int i64 c1,aq 3 (d+1) fun i=>rat (x (i+0)) (SB d),int i64 0])):=ag
theorem xV {d:Nat}:SB (d+1)=4*SB d:=by unfold SB;rw[Nat.pow_succ];omega
theorem tw:∀{d:Nat},65536<=SB d
 |0=>by unfold SB;omega
 |d+1=>by rw[xV];have:=tw (d:=d);omega
theorem An:sF=16386:=rfl
theorem ZZ {d e:Nat} (h:d<=e):SB d<=SB e:=Nat.mul_le_mul_left _ (Nat.pow_le_pow_right aa h)
abbrev sV:Nat:=268435456
theorem r9 {d:Nat} (h:d<=6):SB d<=sV:=Nat.le_trans (ZZ h) (by decide)
def ye (n:Nat) (k:Nat->Rat) (p:Nat) (t:Rat) (f:Nat->Rat):AV:=.tuple [.int .i64 (if dI n k t then 0 else(cM n k t:Int)-p),.aq 3 (if dI n k t then 0 else p+1) (fun j=>.rat (f j) sV),.int .i64 (cX n k t)]
abbrev C4 (n:Nat) (k:Nat->Rat) (p:Nat) (t:Rat):AV:=ye n k p t (vB k (cM n k t) t p)
theorem afB {n p:Nat} {k f:Nat->Rat} {t:Rat} (h:dI n k t):fj [.int .i64 0,.nil,.int .i64 7] (ye n k p t f):=by
 unfold ye cX
 rw[if_pos h,if_pos h,if_pos h]
 exact⟨.refl _,ic aa,.refl _,trivial⟩
theorem alg {n p:Nat} {k f:Nat->Rat} {t:Rat} {g:Nat->AV} (h:¬dI n k t) (hg:∀j,j<p+1->bN (g j) (.rat (f j) sV)):fj [.int .i64 ((cM n k t:Int)-p),.aq 3 (p+1) g,.int .i64 0] (ye n k p t f):=by
 unfold ye cX
 rw[if_neg h,if_neg h,if_neg h]
 exact⟨.refl _,dS hg,.refl _,trivial⟩
theorem yz:bu P tD:=cz (aI Ku (aI Tq (aI (Kz JO) jU)))
def ym (k:Nat->Rat) (i:Nat) (t:Rat) (d j:Nat):Rat:=if j=0 then 0 else fr (k (i-d+(j-1))) (k (i-d+(j-1)+(d+1))) t*vB k i t d (j-1)
def nu (k:Nat->Rat) (i:Nat) (t:Rat) (d j x:Nat):Rat:=if x<j then vB k i t (d+1) x else if x=j then ym k i t d j else 0
def j8 (d j x:Nat):Nat:=if x<j then SB (d+1)else if x=j then HB d else 1
theorem afZ {rl:List (Nat×Nat)} {k:Nat->Rat} {i d j x:Nat} {t:Rat} (hj:j<=d):
  eZ rl (.rat (bif x==j then(bif j==j+1 then nu k i t d j (j+1)+fr (k (i-d+j)) (k (i-d+j+(d+1))) t*vB k i t d j else nu k i t d j j)+(((1:Int):Rat)-fr (k (i-d+j)) (k (i-d+j+(d+1))) t)*vB k i t d j
   else bif x==j+1 then nu k i t d j (j+1)+fr (k (i-d+j)) (k (i-d+j+(d+1))) t*vB k i t d j else nu k i t d j x)
   (bif x==j then(bif j==j+1 then j8 d j (j+1)+(sF+SB d)+1 else j8 d j j)+(1+sF+1+SB d)+1 else bif x==j+1 then j8 d j (j+1)+(sF+SB d)+1 else j8 d j x))
   (.rat (nu k i t d (j+1) x) (j8 d (j+1) x)):=by
 have h1:=xV (d:=d)
 have h2:=tw (d:=d)
 have h3:=An
 have hjj:(j==j+1)=false:=by simp
 rw[hjj]
 refine .inr ⟨rfl,?_⟩
 by_cases hx:x=j
 ·subst hx
  simp only[beq_self_eq_true,cond_true,cond_false]
  refine bO ?_ ?_
  ·unfold nu
   rw[if_neg aa,if_pos rfl,if_pos aa,vB,if_pos hj]
   have:((1:Int):Rat)=1:=rfl
   rw[this];rfl
  ·unfold j8 HB
   rw[if_neg aa,if_pos rfl,if_pos aa];omega
 ·have hb:(x==j)=false:=by simpa using hx
  rw[hb]
  by_cases hx2:x=j+1
  ·subst hx2
   simp only[beq_self_eq_true,cond_true,cond_false]
   refine bO ?_ ?_
   ·unfold nu ym
    rw[if_neg aa,if_neg aa,if_neg aa,if_pos rfl,if_neg aa,Nat.add_sub_cancel,Rat.zero_add]
   ·unfold j8 HB
    rw[if_neg aa,if_neg aa,if_neg aa,if_pos rfl];omega
  ·have hb2:(x==j+1)=false:=by simpa using hx2
   rw[hb2]
   simp only[cond_false]
   refine bO ?_ ?_
   ·unfold nu
    by_cases hlt:x<j
    ·rw[if_pos hlt,if_pos aa]
    ·rw[if_neg hlt,if_neg hx,if_neg aa,if_neg hx2]
   ·unfold j8
    by_cases hlt:x<j
    ·rw[if_pos hlt,if_pos aa];omega
    ·rw[if_neg hlt,if_neg hx,if_neg aa,if_neg hx2];omega
theorem adZ {n p:Nat} {k:Nat->Rat} {t:Rat} (h:Kn n p k) (hp6:p<=6) (hn:n<2^40) (K:Nat):aQ P Dm K [ls k n,.int .i64 p,.rat t sK] [] (aJ (C4 n k p t) []):=by
 refine fc (r:=aJ (C4 n k p t) []) hT QG rfl aX rfl (fun _ c h0=>?_) K []
 have hk:=gV h0
 have hiv:¬dI n k t->p<=cM n k t/\cM n k t+p+1<n:=fun hin=>by
  have h1:¬t<k 0:=fun h=>hin (.inl h)
  have h2:¬k (n-1)<t:=fun h=>hin (.inr h)
  exact(h.K2 (by grind) (by grind)).2
 have hp1:=h.p1
 have hl:=h.len
 refine au.tV hT yz hm [1,1,1,1,1,0,1] (i:=0) (y:=wP) (z:=part DR [1,1,1,1,1,1]) ag ag ag QG.dst hk (f1:=[26,30,36,43]) 60 nZ 3 (fun d:Nat=>vt n k p (cM n k t) d) (fun d=>[(2,kz (d+1) (vB k (cM n k t) t d) fun _=>SB d),(0,tP t sK)])
  (fun d=>d<=p/\¬dI n k t) (fun d=>d=p/\¬dI n k t) (fun d=>p-d) (pF zW nZ (C4 n k p t)) ⟨_,ahn,?_⟩ (fun d ⟨hd,hin⟩=>?_) (fun d ⟨hd,hin⟩=>?_) (fun v s' hv hs'=>hv.fin hs')
 ·simp only[ah.all,aA,xE,bne_iff_ne,ne_eq,bne_eq_false_iff_eq,bq,bw,cond_false,bn]
  refine⟨⟨aa,bP aY,aY,h,aa,hn⟩,fun hout=>?_,fun hin=>?_⟩
  ·have hout:dI n k t:=by
    unfold cX at hout
    by_cases ho:dI n k t
    ·exact ho
    ·rw[if_neg ho]at hout;exact absurd rfl hout
   refine⟨[.int .i64 0,.nil,.int .i64 7],?_,afB hout⟩
   unfold cX
   rw[if_pos hout]
   kernel_rfl
  ·have hin:¬dI n k t:=fun ho=>by unfold cX at hin;rw[if_pos ho]at hin;omega
   have hii:fI n k t=cM n k t:=by unfold fI;rw[if_neg hin]
   have hv:=hiv hin
   simp only[hii,bq,bw]
   (repeat' with_reducible first|refine And.intro ?_ ?_|intro _)
   all_goals first|omega|(exfalso;omega)|exact absurd ‹false=true› (by decide)|exact absurd ‹true=false› (by decide)|skip
   refine⟨0,⟨aa,hin⟩,[(0,0),(2,131072)],rfl,rfl,rfl,bJ rfl rfl rfl (fun i hi=>?_) (aC trivial)⟩
   have:i=0:=aa
   subst this
   exact .inr ⟨rfl,bO rfl (by have:=tw (d:=0);exact Nat.le_trans (by decide) this)⟩
 ·have hv:=hiv hin
  refine au.ow hT yz hm (y:=wP) (x1:=rU) (zb:=part wP [1,1]) [1,0] (j:=1) ag ag ag ag hk (f1:=[48]) 60 nZ 3 (fun _:Unit=>vt n k p (cM n k t) d) (fun _=>[(2,kz (d+1) (vB k (cM n k t) t d) fun _=>SB d),(0,tP t sK)]) (fun _=>d+1<=p) ⟨_,abR,?_⟩ (fun _ hd'=>?_)
  ·simp only[ah.all,aA,bq,bw]
   have re:cU [] ([aq 3 n fun i=>rat (k i) sK,int i64 p,ptr 0 0 3 0 [],int i64 (cM n k t),own 2 3 0 (d+1),int i64 ((d+1:Nat):Int),int i64 0,nil,int i64 0],[(2,ak.mk true true 3 (d+1) fun i=>rat (vB k (cM n k t) t d i) (SB d)),((0:Nat),aS fun x=>rat t sK)]) (vt n k p (cM n k t) d) [(2,kz (d+1) (vB k (cM n k t) t d) fun _=>SB d),(0,tP t sK)] 3:=
    ⟨[(0,0),(2,2)],rfl,rfl,rfl,bJ rfl rfl rfl (fun i hi=>cB rfl rfl) (aC trivial)⟩
   exact⟨fun h1=>⟨(),aa,re⟩,fun h1 s' hs'=>⟨rfl,d,⟨aa,hin⟩,re.le hs' hk⟩⟩
  refine au.j4 hT yz hm (x:=rU) (z:=part rU [1,1]) [1,0,1] (i:=2) (y:=part rU [1,0,1,0,0]) ag ag ag ag hk (f1:=[]) (f2:=[57]) 60 y7 4 (fun j:Nat=>HJ n k p (cM n k t) d j)
   (fun j=>[(3,kz (d+2) (nu k (cM n k t) t d j) (j8 d j)),(2,kz (d+1) (vB k (cM n k t) t d) fun _=>SB d),(0,tP t sK)]) (fun j=>j<=d+1) (fun j=>j=d+1) (fun j=>d+1-j) (fun _=>False) ⟨_,amg,?_⟩ (fun j hj=>⟨_,aeA,?_⟩) (fun j hj=>?_) (fun _ _ h=>h.elim)
  ·simp only[ah.all,aA]
   rw[show(((d+1:Nat):Int)+1).toNat=d+2 by omega]
   refine⟨⟨aa,aa⟩,0,aa,[(0,0),(2,2),(3,8195)],rfl,rfl,rfl,bJ rfl rfl rfl (fun i hi=>?_) (bJ rfl rfl rfl (fun i hi=>cB rfl rfl) (aC trivial))⟩
   refine .inr ⟨rfl,bO ?_ ?_⟩
   ·unfold nu ym;rw[if_neg aa];split<;>rfl
   ·unfold j8 HB;rw[if_neg aa];split<;>omega
  ·have hF:=An
   have h1:=tw (d:=d)
   have h2:=r9 (d:=d) aa
   have h3:=r9 (d:=d+1) aa
   have h5:sV=268435456:=rfl
   have s0:j8 d j j=HB d:=by unfold j8;rw[if_neg aa,if_pos rfl]
   have s1:j8 d j (j+1)=1:=by unfold j8;rw[if_neg aa,if_neg aa]
   have e0:((cM n k t:Int)-((d+1:Nat):Int)+1+(j:Int)).toNat=cM n k t-d+j:=aa
   have e1:((cM n k t:Int)-((d+1:Nat):Int)+1+(j:Int)+((d+1:Nat):Int)).toNat=cM n k t-d+j+(d+1):=aa
   have e2:((j:Int)+1).toNat=j+1:=aa
   simp only[ah.all,aA,bq,bw,bn,Nat.add_zero,e0,e1,e2,UN]
   have hjj:(j==j+1)=false:=by simp
   refine⟨fun h4=>?_,fun h4=>⟨rfl,j,aa,[(0,0),(2,2),(3,3)],rfl,rfl,rfl,bJ rfl rfl rfl (fun i hi=>cB rfl rfl) (bJ rfl rfl rfl (fun i hi=>cB rfl rfl) (aC trivial))⟩⟩
   (repeat' with_reducible refine And.intro ?_ ?_)
   all_goals first|omega|(rw[s1];omega)|(rw[hjj,cond_false,s0];unfold HB;omega)|skip
   refine⟨j+1,aa,by dsimp only;omega,[(0,0),(2,2),(3,3)],rfl,rfl,rfl,bJ rfl rfl rfl (fun x hx=>afZ aa) (bJ rfl rfl rfl (fun i hi=>cB rfl rfl) (aC trivial))⟩
  ·subst hj
   refine au.tail (fun s' hh=>by have:=hh.1;omega) (aH.bC hT yz hm 60 nZ aoe ag ?_)
   simp only[ah.all,aA]
   refine⟨aa,fun s' hs'=>⟨d+1,⟨hd',hin⟩,by dsimp only;omega,cU.le ⟨[(0,0),(2,3)],rfl,rfl,rfl,bJ rfl rfl rfl (fun x hx=>?_) (aC trivial)⟩ hs' hk⟩⟩
   refine .inr ⟨rfl,bO ?_ ?_⟩
   ·unfold nu
    by_cases hlt:x<d+1
    ·rw[if_pos hlt]
    ·have:x=d+1:=aa
     subst this
     rw[if_neg aa,if_pos rfl,vB,if_neg (show¬d+1<=d by omega),Rat.add_zero];rfl
   ·have h1:=xV (d:=d)
    have h2:=tw (d:=d)
    have hF:=An
    show _<=SB (d+1)
    unfold j8 HB
    split
    ·omega
    ·split<;>omega
 ·subst hd
  refine au.gr ((aH.fin hT yz hm 60 acK ag ?_).mono fun _ _ h=>.inl h)
  simp only[ah.all,aA]
  exact⟨by have:=hiv hin;omega,alg hin fun j _=>eR (r9 hp6)⟩
theorem XW:aT P tc Gr (ay Gr):=aU Proofs.Tryz.func93 ag ag ag
theorem abx:aT P LS Ck (ay Ck):=aU Proofs.Tryz.func222 ag ag ag
def Q5:Spec:=cq TA (fun a=>C4 a.1.1 a.1.2 a.2.1.toNat a.2.2.1) fun a=>[Kn a.1.1 a.2.1.toNat a.1.2,0<=a.2.1,a.2.1<=6,a.1.1<2^40]
theorem amI:aW P Q5 Dm:=ck fun⟨⟨n,k⟩,p,t,_⟩ K hn=>by
 obtain⟨h1,h2,h3,h4⟩:=hn
 have h3:p<=6:=h3
 have:=adZ h1 (by simp only;omega) h4 K (t:=t)
 rw[Int.toNat_of_nonneg h2]at this
 exact this
def qu:Spec:=cq (kC (kL sK) (kC kI kN)) (fun a=>.int .i64 ((a.1.1:Int)-a.2.1-1)) fun a=>[a.1.1<2^40,-2^40<a.2.1,a.2.1<2^40]
theorem ZY {n:Nat} {k:Nat->Rat} {p:Int}:bU T [nG] [] 60 Gr (ay Gr) ⟨aP 0 [ls k n,.int .i64 p],[],0⟩=
  let c3:Int:=(↑n:Int)-p;let c1:Int:=(2:Int)^63;let c2:Int:=c3-1;some (aj [-c1<=c3/\c3<c1,-c1<=c2/\c2<c1] (leaf ret [int i64 c2])):=ag
theorem adq {n:Nat} {k:Nat->Rat} {p:Int}:bU T [nG] [] 60 Ck (ay Ck) ⟨aP 0 [ls k n,.int .i64 p],[],0⟩=
  let c3:Int:=(↑n:Int)-p;let c1:Int:=(2:Int)^63;let c2:Int:=c3-1;some (aj [-c1<=c3/\c3<c1,-c1<=c2/\c2<c1] (leaf ret [int i64 c2])):=ag
theorem Ap:aW P qu tc:=ck fun⟨⟨n,k⟩,p,_⟩ K hn=>by
 obtain⟨h1,h2,h3⟩:=hn
 have h3:p<2^40:=h3
 simp only at h1 h2
 refine bZ (r:=aJ (.int .i64 ((n:Int)-p-1)) []) hT (cz bz) hm XW rfl aX rfl 60 ZY (fun _=>?_) K []
 simp only[ah.all,aA]
 exact⟨aa,.refl _⟩
theorem acm:aW P qu LS:=ck fun⟨⟨n,k⟩,p,_⟩ K hn=>by
 obtain⟨h1,h2,h3⟩:=hn
 have h3:p<2^40:=h3
 simp only at h1 h2
 refine bZ (r:=aJ (.int .i64 ((n:Int)-p-1)) []) hT (cz bz) hm abx rfl aX rfl 60 adq (fun _=>?_) K []
 simp only[ah.all,aA]
 exact⟨aa,.refl _⟩
abbrev zO:ak:=⟨false,true,3,1,fun _=>.rat 0 1⟩
abbrev sU:Nat:=4294967296
theorem B2 {n:Nat} {k:Nat->Rat} {t:Rat} (h:cX n k t≠0):dI n k t:=by
 unfold cX at h
 by_cases ho:dI n k t
 ·exact ho
 ·rw[if_neg ho]at h;exact absurd rfl h
theorem BL {n:Nat} {k:Nat->Rat} {t:Rat} (h:cX n k t=0):¬dI n k t:=fun ho=>by unfold cX at h;rw[if_pos ho]at h;omega
theorem Kn.IC {n p:Nat} {k:Nat->Rat} (h:Kn n p k) {t:Rat} (hin:¬dI n k t):p<=cM n k t/\cM n k t+p+1<n:=by
 have h1:¬t<k 0:=fun h=>hin (.inl h)
 have h2:¬k (n-1)<t:=fun h=>hin (.inr h)
 exact(h.K2 (by grind) (by grind)).2
def cL (k:Nat->Rat) (t:Rat):Nat->Nat
 |0=>0
 |i+1=>cL k t i+if k i=t then 1 else 0
def ia (k:Nat->Rat) (i:Nat):Prop:=i=0\/k i≠k (i-1)
instance {k:Nat->Rat} {i:Nat}:Decidable (ia k i):=inferInstanceAs (Decidable (i=0\/k i≠k (i-1)))
def cK (k:Nat->Rat):Nat->Nat
 |0=>0
 |i+1=>cK k i+if ia k i then 1 else 0
def ee (k:Nat->Rat):Nat->Nat->Rat
 |0=>fun _=>0
 |i+1=>if ia k i then mu (ee k i) (cK k i) (k i)else ee k i
theorem CJ {k:Nat->Rat} {t:Rat}:∀{n:Nat},cL k t n<=n
 |0=>Nat.le_refl _
 |n+1=>by
  have:=CJ (k:=k) (t:=t) (n:=n)
  unfold cL;split<;>omega
theorem uf {k:Nat->Rat}:∀{n:Nat},cK k n<=n
 |0=>Nat.le_refl _
 |n+1=>by
  have:=uf (k:=k) (n:=n)
  unfold cK;split<;>omega
theorem KA {k:Nat->Rat}:∀{n j:Nat},j<cK k n->∃i,i<n/\ee k n j=k i
 |0,j,h=>by simp[cK]at h
 |n+1,j,h=>by
  rw[ee]
  rw[cK]at h
  by_cases hn:ia k n
  ·rw[if_pos hn]at h ⊢
   by_cases he:j=cK k n
   ·subst he;exact⟨n,by omega,xp⟩
   ·obtain⟨i,h1,h2⟩:=KA (k:=k) (n:=n) (j:=j) (by omega)
    exact⟨i,by omega,by rw[nA he];exact h2⟩
  ·rw[if_neg hn]at h ⊢
   obtain⟨i,h1,h2⟩:=KA (k:=k) (n:=n) (j:=j) (by omega)
   exact⟨i,by omega,h2⟩
def rW (n:Nat) (k:Nat->Rat):Prop:=∀i,i+1<n->k i<=k (i+1)
def lp (n:Nat) (k:Nat->Rat) (p:Nat) (t:Rat):Prop:=((t=k 0\/t=k (n-1))/\cL k t n≠p+1)\/(¬(t=k 0\/t=k (n-1))/\p<cL k t n)
instance {n:Nat} {k:Nat->Rat} {p:Nat} {t:Rat}:Decidable (lp n k p t):=inferInstanceAs (Decidable (((t=k 0\/t=k (n-1))/\cL k t n≠p+1)\/(¬(t=k 0\/t=k (n-1))/\p<cL k t n)))
def rL (n:Nat) (k:Nat->Rat) (p:Nat):Prop:=rW n k/\k 0≠k (n-1)/\∀j,j<cK k n->¬lp n k p (ee k n j)
open Classical in
def gY (n:Nat) (k:Nat->Rat) (p:Int):Int:=
 if p<1\/6<p then 1 else if(n:Int)<2*p+2 then 5 else if 40<(n:Int)-p-1 then 2 else if rL n k p.toNat then 0 else 5
theorem UZ {k:Nat->Rat} {t:Rat} {a b:Nat} (hab:a<=b):∀{n:Nat},(∀i,i<n->k i=t->a<=i/\i<b)->cL k t n<=min n b-min n a
 |0,_=>by simp[cL]
 |n+1,h=>by
  have ih:=UZ (k:=k) (t:=t) hab (n:=n) fun i hi=>h i (by omega)
  rw[cL]
  split
  ·rename_i e
   have:=h n (by omega) e
   omega
  ·omega
theorem Iq {k:Nat->Rat} {t:Rat} {a b:Nat} (hab:a<=b):∀{n:Nat},(∀i,i<n->(k i=t↔a<=i/\i<b))->cL k t n=min n b-min n a
 |0,_=>by simp[cL]
 |n+1,h=>by
  have ih:=Iq (k:=k) (t:=t) hab (n:=n) fun i hi=>h i (by omega)
  rw[cL]
  have:=h n (by omega)
  split
  ·rename_i e
   have:=this.1 e
   omega
  ·rename_i e
   have:¬(a<=n/\n<b):=fun h=>e (this.2 h)
   omega
theorem least {q:Nat->Prop} [DecidablePred q]:∀{n:Nat},q n->∃a,a<=n/\q a/\∀i,i<a->¬q i
 |0,h=>⟨0,Nat.le_refl _,h,fun i hi=>by omega⟩
 |n+1,h=>by
  by_cases h2:∃i,i<n+1/\q i
  ·obtain⟨i,hi,hq⟩:=h2
   obtain⟨a,h3,h4,h5⟩:=least_lt hi hq
   exact⟨a,by omega,h4,h5⟩
  ·exact⟨n+1,Nat.le_refl _,h,fun i hi hq=>h2 ⟨i,hi,hq⟩⟩
where
 least_lt {q:Nat->Prop} [DecidablePred q]:∀{n i:Nat},i<n->q i->∃a,a<n/\q a/\∀i,i<a->¬q i
 |0,i,h,_=>by omega
 |n+1,i,h,hq=>by
  by_cases h2:∃j,j<n/\q j
  ·obtain⟨j,hj,hq⟩:=h2
   obtain⟨a,h3,h4,h5⟩:=least_lt hj hq
   exact⟨a,by omega,h4,h5⟩
  ·have:i=n:=by
    by_cases e:i=n
    ·exact e
    ·exact absurd ⟨i,by omega,hq⟩ h2
   subst this
   exact⟨i,h,hq,fun j hj hq=>h2 ⟨j,hj,hq⟩⟩
theorem Kn.rL {n p:Nat} {k:Nat->Rat} (h:Kn n p k):rL n k p:=by
 have hp:=h.p1
 have hl:=h.len
 have hw:k p<k (p+1):=by
  have:=h.mult 1 (by omega) (by omega)
  rw[h.first 1 (by omega),show 1+p=p+1 by omega]at this
  rw[h.first p (by omega)];exact this
 have hw2:k (n-p-2)<k (n-p-1):=by
  by_cases he:n=2*p+2
  ·have e1:n-p-2=p:=by omega
   have e2:n-p-1=p+1:=by omega
   rw[e1,e2];exact hw
  ·have:=h.mult (n-p-2) (by omega) (by omega)
   rw[h.last (n-p-2+p) (by omega) (by omega),<-h.last (n-p-1) (by omega) (by omega)]at this
   exact this
 have m:∀{i j},i<=j->j<n->k i<=k j:=fun hi hj=>gX h.sorted hi hj
 have h0l:k 0<k (n-1):=by
  have a:=m (i:=p+1) (j:=n-1) (by omega) (by omega)
  have b:=h.first p (Nat.le_refl _)
  grind
 refine⟨h.sorted,by grind,fun j hj=>?_⟩
 obtain⟨i,hi,e⟩:=KA hj
 rw[e]
 unfold lp
 by_cases h0:k i=k 0
 ·have:cL k (k i) n=p+1:=by
   rw[Iq (a:=0) (b:=p+1) (by omega) (n:=n) fun x hx=>?_]
   ·omega
   ·rw[h0]
    constructor
    ·intro ex
     refine⟨by omega,?_⟩
     by_cases hx2:x<p+1
     ·exact hx2
     ·have:=m (i:=p+1) (j:=x) (by omega) hx
      have b:=h.first p (Nat.le_refl _)
      grind
    ·intro hx2;exact h.first x (by omega)
  rw[this]
  simp[h0]
 ·by_cases h1:k i=k (n-1)
  ·have:cL k (k i) n=p+1:=by
    rw[Iq (a:=n-p-1) (b:=n) (by omega) (n:=n) fun x hx=>?_]
    ·omega
    ·rw[h1]
     constructor
     ·intro ex
      refine⟨?_,hx⟩
      by_cases hx2:n-p-1<=x
      ·exact hx2
      ·have:=m (i:=x) (j:=n-p-2) (by omega) (by omega)
       have b:=h.last (n-p-1) (by omega) (by omega)
       grind
     ·intro hx2;exact h.last x (by omega) hx
   rw[this]
   simp[h1]
  ·obtain⟨a,ha,e,hlt⟩:=least (q:=fun x=>k x=k i) (n:=i) rfl
   have ha0:p<a:=by
    by_cases hx:p<a
    ·exact hx
    ·have:=h.first a (by omega)
     rw[this]at e;exact absurd e.symm h0
   have hal:a+p+1<n:=by
    by_cases hx:a+p+1<n
    ·exact hx
    ·have:=h.last a (by omega) (by omega)
     rw[this]at e;exact absurd e.symm h1
   have hm:=h.mult a (by omega) hal
   have:cL k (k i) n<=min n (a+p)-min n a:=by
    refine UZ (by omega) fun x hx ex=>⟨?_,?_⟩
    ·by_cases hx2:a<=x
     ·exact hx2
     ·exact absurd ex (hlt x (by omega))
    ·by_cases hx2:x<a+p
     ·exact hx2
     ·have:=m (i:=a+p) (j:=x) (by omega) hx
      grind
   intro hb
   rcases hb with⟨h2,_⟩|⟨_,h2⟩
   ·exact h2.elim h0 h1
   ·omega
theorem Kn.Ly {n p:Nat} {k:Nat->Rat} (h:Kn n p k) (hp6:p<=6) (hn:n<=p+41):gY n k p=0:=by
 have hp:=h.p1
 have hl:=h.len
 unfold gY
 rw[if_neg (by omega),if_neg (by omega),if_neg (by omega),if_pos (by rw[Int.toNat_natCast];exact h.rL)]
def jE (k:Nat->Rat) (l i:Nat):Rat:=if i<cK k l then ee k l i else k i
theorem KR {k:Nat->Rat}:∀{b:Nat},(∀i,i<b->ia k i)->cK k b=b/\∀i,i<b->ee k b i=k i
 |0,_=>⟨rfl,fun i hi=>by omega⟩
 |b+1,h=>by
  obtain⟨h1,h2⟩:=KR (k:=k) (b:=b) fun i hi=>h i (by omega)
  rw[cK,ee,if_pos (h b (by omega)),if_pos (h b (by omega)),h1]
  refine⟨rfl,fun i hi=>?_⟩
  unfold mu
  split
  ·rename_i e;rw[e]
  ·exact h2 i (by omega)
theorem adI {k:Nat->Rat} {b:Nat} (h:∀i,i<b->ia k i) (hb:¬ia k b):cK k (b+1)=b/\∀i,jE k (b+1) i=k i:=by
 obtain⟨h1,h2⟩:=KR h
 have e:cK k (b+1)=b:=by rw[cK,if_neg hb,h1];rfl
 refine⟨e,fun i=>?_⟩
 unfold jE
 rw[e,ee,if_neg hb]
 split
 ·exact h2 i ‹_›
 ·rfl
theorem RX {k:Nat->Rat} {n:Nat} (h:∀i,i<n->ia k i):cK k n=n/\∀i,i<n->ee k n i=k i:=KR h
theorem abN {k:Nat->Rat} {l i:Nat} (h:ia k l) (hl:cK k l<=l):jE k (l+1) i=if i=cK k l then k l else jE k l i:=by
 unfold jE
 rw[cK,ee,if_pos h,if_pos h]
 unfold mu
 by_cases h1:i=cK k l
 ·subst h1
  rw[if_pos (by omega),if_pos rfl,if_pos rfl]
 ·rw[if_neg h1]
  by_cases h2:i<cK k l
  ·rw[if_pos (by omega),if_pos h2,if_neg h1]
  ·rw[if_neg (by omega),if_neg h2,if_neg h1]
theorem anl {k:Nat->Rat} {l i:Nat} (h:¬ia k l):cK k (l+1)=cK k l/\jE k (l+1) i=jE k l i:=by
 unfold jE
 rw[cK,ee,if_neg h,if_neg h]
 exact⟨rfl,rfl⟩
theorem agd {k:Nat->Rat} {l:Nat} (h:ia k l):cK k (l+1)=cK k l+1:=by rw[cK,if_pos h]
theorem OR {k:Nat->Rat} {l:Nat} (h:¬ia k l):cK k (l+1)=cK k l:=by rw[cK,if_neg h];rfl
theorem NN {k:Nat->Rat} {l i:Nat} (h:cK k l<=i):jE k l i=k i:=by unfold jE;rw[if_neg (by omega)]
theorem Rr {k:Nat->Rat} {b:Nat} (hb:¬ia k b):∀{l:Nat},b<l->cK k l<l
 |0,h=>by omega
 |l+1,h=>by
  by_cases he:l=b
  ·subst he;rw[OR hb];have:=uf (k:=k) (n:=l);omega
  ·have:=Rr hb (l:=l) (by omega)
   have h2:=uf (k:=k) (n:=l)
   rw[cK];split<;>omega
open Classical in
theorem ahV {n:Nat} {k:Nat->Rat} {p:Int} (h:p<1\/6<p):gY n k p=1:=if_pos h
theorem YV {n:Nat} {k:Nat->Rat} {p:Int} (h:¬(p<1\/6<p)) (h2:(n:Int)<2*p+2):gY n k p=5:=by unfold gY;rw[if_neg h,if_pos h2]
theorem ak5 {n:Nat} {k:Nat->Rat} {p:Int} (h:¬(p<1\/6<p)) (h2:¬(n:Int)<2*p+2) (h3:40<(n:Int)-p-1):gY n k p=2:=by unfold gY;rw[if_neg h,if_neg h2,if_pos h3]
theorem ai1 {n:Nat} {k:Nat->Rat} {p:Int} (h:¬(p<1\/6<p)) (h2:¬(n:Int)<2*p+2) (h3:¬40<(n:Int)-p-1) (h4:rL n k p.toNat):gY n k p=0:=by unfold gY;rw[if_neg h,if_neg h2,if_neg h3,if_pos h4]
theorem H9 {n:Nat} {k:Nat->Rat} {p:Int} (h:¬(p<1\/6<p)) (h2:¬(n:Int)<2*p+2) (h3:¬40<(n:Int)-p-1) (h4:¬rL n k p.toNat):gY n k p=5:=by unfold gY;rw[if_neg h,if_neg h2,if_neg h3,if_neg h4]
open Go Go.Am.N AV ah ax IntKind
theorem ae7:aT P y5 EI (ay EI):=aU Proofs.Tryz.func81 ag ag ag
theorem ZN:aT P Bc EK (ay EK):=aU Proofs.Tryz.func220 ag ag ag
theorem KL:aT P tu Ek (ay Ek):=aU Proofs.Tryz.func186 ag ag ag
abbrev Ao:List Nat:=[3,5,8,9,10]
abbrev x9 (n:Nat) (k:Nat->Rat) (c i:Nat):List AV:=[.ptr 0 0 3 0 [],.int .i64 c,ls k n,.int .i64 n,.int .i64 i]
abbrev xJ:Code:=ay EI
abbrev sJ:Nat:=4000
abbrev gL (m:Nat) (k:Nat->Rat):ak:=⟨true,true,3,m,fun i=>.rat (k i) sK⟩
abbrev Bb:List Nat:=[3,9,10,11]
abbrev K1 (n:Nat) (k:Nat->Rat) (i:Nat):List AV:=[.own 0 3 0 i,br k n sJ,.int .i64 n,.int .i64 i]
abbrev nP:Code:=ay Ek
abbrev zZ:List Nat:=[0,3,5,6]
abbrev y9 (n:Nat) (k:Nat->Rat) (c i:Nat):List AV:=[ls k n,.ptr 0 0 3 0 [],.int .i64 c,.int .i64 i]
abbrev yM:Code:=ay EK
theorem ak8 {n:Nat} {k:Nat->Rat} {t:Rat}:aG T ir [] 60 Ao (before xJ [1,1,0,1]) ⟨aP 0 [ls k n,.rat t sK],[],0⟩=
  some (leaf normal ([ptr 0 0 (aV (rat t sK)).size 0 [],int i64 0,aq 3 n fun i=>rat (k i) 4096,int i64 (↑n:Int),int i64 0],[(0,ak.mk false true (aV (rat t sK)).size 1 fun x=>rat t 4096)])):=ag
theorem adM {n c i:Nat} {k:Nat->Rat} {t:Rat}:aG T ir [11,16] 60 Ao [part xJ [1,1,0,1,0,0]] ⟨aB Ao (x9 n k c i),[(0,tP t sK)],1⟩=
  let c10:Int:=(↑n:Int);let c9:Prop:=0<1;let c8:Int:=(↑c:Int)+1;let c7:AV:=aq 3 n fun i=>rat (k i) 4096;let c5:Int:=(↑i:Int);let c4:AV:=ptr 0 0 3 0 [];let c2:Int:=(2:Int)^63;let c1:Nat×ak:=((0:Nat),aS fun x=>rat t 4096);let c6:Int:=c5+1;let c3:List AV:=[c7,int i64 c10,int i64 c6];some (fork (decide (c5<c10)) (aj [(0:Int)<=c5/\c5.toNat<n,c9] (aj [c9,c9] (fork (decide (k c5.toNat=t)) (aj [-c2<=c8/\c8<c2] (aj [-c2<=c6/\c6<c2] (leaf normal (c4::int i64 c8::c3,[c1])))) (aj [-c2<=c6/\c6<c2] (leaf normal (c4::int i64 (↑c:Int)::c3,[c1])))))) (leaf (exit 0) ([c4,int i64 (↑c:Int),c7,int i64 c10,int i64 c5],[c1]))):=ag
theorem af3 {n c i:Nat} {k:Nat->Rat} {t:Rat}:cj T ir [] 60 EI [part xJ [1,1,1]] ⟨aB Ao (x9 n k c i),[(0,tP t sK)],1⟩=
  some (leaf ret [int i64 (↑c:Int)]):=ag
theorem Xf {n:Nat} {k:Nat->Rat} {t:Rat}:aG T nW [] 60 zZ (before yM [1,1,0,1]) ⟨aP 0 [ls k n,.rat t sK],[],0⟩=
  some (leaf normal ([aq 3 n fun i=>rat (k i) 4096,ptr 0 0 (aV (rat t sK)).size 0 [],int i64 0,int i64 0],[(0,ak.mk false true (aV (rat t sK)).size 1 fun x=>rat t 4096)])):=ag
theorem af4 {n c i:Nat} {k:Nat->Rat} {t:Rat}:aG T nW [10,18] 60 zZ [part yM [1,1,0,1,0,0]] ⟨aB zZ (y9 n k c i),[(0,tP t sK)],1⟩=
  let c7:Int:=(↑c:Int)+1;let c6:Int:=(↑i:Int);let c5:AV:=ptr 0 0 3 0 [];let c4:AV:=aq 3 n fun i=>rat (k i) 4096;let c3:Int:=(2:Int)^63;let c1:Nat×ak:=((0:Nat),aS fun x=>rat t 4096);let c2:Int:=c6+1;some (fork (decide (c6<(↑n:Int))) (aj [(0:Int)<=c6/\c6.toNat<n,(0:Nat)<1] (fork (decide (k c6.toNat=t)) (aj [-c3<=c7/\c7<c3] (aj [-c3<=c2/\c2<c3] (leaf normal ([c4,c5,int i64 c7,int i64 c2],[c1])))) (aj [-c3<=c2/\c2<c3] (leaf normal ([c4,c5,int i64 (↑c:Int),int i64 c2],[c1]))))) (leaf (exit 0) ([c4,c5,int i64 (↑c:Int),int i64 c6],[c1]))):=ag
theorem YS {n c i:Nat} {k:Nat->Rat} {t:Rat}:cj T nW [] 60 EK [part yM [1,1,1]] ⟨aB zZ (y9 n k c i),[(0,tP t sK)],1⟩=
  some (leaf ret [int i64 (↑c:Int)]):=ag
theorem ang {n:Nat} {k:Nat->Rat}:aG T ir [] 60 Bb (before nP [1,1,0,1]) ⟨aP 0 [br k n sJ],[],0⟩=
  let c1:Int:=(↑n:Int);some (aj [(0:Int)<=0/\(0:Int)<=c1/\c1<=2^47/\c1*(↑(56:Nat):Int)<=2^47] (leaf normal ([own 12288 3 0 0,aq 3 n fun i=>rat (k i) 4000,int i64 c1,int i64 0],[(12288,ak.mk true true 3 0 fun x=>rat 0 1)]))):=ag
theorem akJ {n i:Nat} {k:Nat->Rat}:aG T ir [12] 60 Bb [part nP [1,1,0,1,0,0]] ⟨aB Bb (K1 n k i),[(0,gL i k)],1⟩=
  let c4:Int:=(↑n:Int);let c2:AV:=aq 3 n fun i=>rat (k i) 4000;let c1:Int:=(↑i:Int);let c3:Int:=c1+1;some (fork (decide (c1<c4)) (aj [(0:Int)<=c1/\c1.toNat<n,(0:Nat)<1] (aj [(0:Nat)<1,(1:Nat)*3<=2^24,(i+1)*((56:Nat)+1)*2<=2^47] (aj [-(2:Int)^63<=c3/\c3<2^63] (leaf normal ([own 40961 3 0 (i+1),c2,int i64 c4,int i64 c3],[(40961,ak.mk true true 3 (i+1) fun i_1=>if i_1<i then rat (k i_1) sK else nth [rat (k c1.toNat+0) (sJ+1+1)] (rat 0 1) (i_1-i+0))]))))) (leaf (exit 0) ([own 0 3 0 i,c2,int i64 c4,int i64 c1],[(0,ak.mk true true 3 i fun i=>rat (k i) 4096)]))):=ag
theorem ama {n i:Nat} {k:Nat->Rat}:aG T ir [] 60 [2] [part nP [1,1,1]] ⟨aB Bb (K1 n k i),[(0,gL i k)],1⟩=
  some (leaf ret ([own 0 3 0 i],[(0,ak.mk true true 3 i fun i=>rat (k i) 4096)])):=ag
theorem Rl {k:Nat->Rat} {t:Rat} {i:Nat} (h:k i=t):cL k t (i+1)=cL k t i+1:=by rw[cL,if_pos h]
theorem Uj {k:Nat->Rat} {t:Rat} {i:Nat} (h:¬k i=t):cL k t (i+1)=cL k t i:=by rw[cL,if_neg h];rfl
theorem Zz {n:Nat} {k:Nat->Rat} {t:Rat} (hn:n<2^40) (K:Nat):aQ P y5 K [ls k n,.rat t sK] [] (aJ (.int .i64 (cL k t n)) []):=by
 refine ij (r:=aJ (.int .i64 (cL k t n)) []) hT mB hm ae7 rfl aX rfl [1,1,0,1] (i:=0) (y:=part xJ [1,1,0,1,0,0]) (z:=part xJ [1,1,1]) ag ag ag (f1:=[]) (f2:=[11,16]) (f3:=[]) 60 Ao 1
  (fun i:Nat=>x9 n k (cL k t i) i) (fun _=>[(0,tP t sK)]) (fun i=>i<=n) (fun i=>i=n) (fun i=>n-i) (fun _=>⟨⟨_,ak8,?_⟩,fun i hi=>⟨_,adM,?_⟩,fun i hi=>⟨_,af3,?_⟩⟩) K []
 ·simp only[ah.all,aA]
  exact⟨0,Nat.zero_le _,[(0,0)],rfl,rfl,rfl,aC trivial⟩
 ·have h1:=CJ (k:=k) (t:=t) (n:=i)
  simp only[ah.all,aA,bq,bw,bn,Nat.add_zero]
  refine⟨fun h2=>⟨aa,aa,fun h3=>⟨aa,aa,i+1,aa,by dsimp only;omega,[(0,0)],rfl,?_,rfl,aC trivial⟩,fun h3=>⟨aa,i+1,aa,by dsimp only;omega,[(0,0)],rfl,?_,rfl,aC trivial⟩⟩,fun h2=>⟨rfl,i,aa,[(0,0)],rfl,rfl,rfl,aC trivial⟩⟩
  ·show _=(x9 n k (cL k t (i+1)) (i+1)).map _
   rw[Rl h3];rfl
  ·show _=(x9 n k (cL k t (i+1)) (i+1)).map _
   rw[Uj h3];rfl
 ·subst hi
  simp only[ah.all,aA]
  exact .refl _
theorem aj6 {n:Nat} {k:Nat->Rat} {t:Rat} (hn:n<2^40) (K:Nat):aQ P Bc K [ls k n,.rat t sK] [] (aJ (.int .i64 (cL k t n)) []):=by
 refine ij (r:=aJ (.int .i64 (cL k t n)) []) hT Mt hm ZN rfl aX rfl [1,1,0,1] (i:=0) (y:=part yM [1,1,0,1,0,0]) (z:=part yM [1,1,1]) ag ag ag (f1:=[]) (f2:=[10,18]) (f3:=[]) 60 zZ 1
  (fun i:Nat=>y9 n k (cL k t i) i) (fun _=>[(0,tP t sK)]) (fun i=>i<=n) (fun i=>i=n) (fun i=>n-i) (fun _=>⟨⟨_,Xf,?_⟩,fun i hi=>⟨_,af4,?_⟩,fun i hi=>⟨_,YS,?_⟩⟩) K []
 ·simp only[ah.all,aA]
  exact⟨0,Nat.zero_le _,[(0,0)],rfl,rfl,rfl,aC trivial⟩
 ·have h1:=CJ (k:=k) (t:=t) (n:=i)
  simp only[ah.all,aA,bq,bw,bn,Nat.add_zero]
  refine⟨fun h2=>⟨aa,fun h3=>⟨aa,aa,i+1,aa,by dsimp only;omega,[(0,0)],rfl,?_,rfl,aC trivial⟩,fun h3=>⟨aa,i+1,aa,by dsimp only;omega,[(0,0)],rfl,?_,rfl,aC trivial⟩⟩,fun h2=>⟨rfl,i,aa,[(0,0)],rfl,rfl,rfl,aC trivial⟩⟩
  ·show _=(y9 n k (cL k t (i+1)) (i+1)).map _
   rw[Rl h3];rfl
  ·show _=(y9 n k (cL k t (i+1)) (i+1)).map _
   rw[Uj h3];rfl
 ·subst hi
  simp only[ah.all,aA]
  exact .refl _
abbrev an5:rB ((Nat×(Nat->Rat))×Rat×Unit):=kC (kL sK) (kC (gN sK) kN)
def vw:Spec:=cq an5 (fun a=>.int .i64 (cL a.1.2 a.2.1 a.1.1)) fun a=>[a.1.1<2^40]
theorem Oq:aW P vw y5:=ck fun⟨⟨n,k⟩,t,_⟩ K hn=>Zz hn K
theorem NV:aW P vw Bc:=ck fun⟨⟨n,k⟩,t,_⟩ K hn=>aj6 hn K
theorem ajo {args:List AV} {n:Nat} {k:Nat->Rat} {l:List Prop} (ha:aA l->fY (bp []) args [br k n sJ]) (hn:aA l->n<2^40) (K:Nat):aQ P tu K args [] ⟨jh [.own K 3 0 n],[(K,gL n k)],l⟩:=by
 refine FN hT KL ha aX fun need c hk=>?_
 have hn:=hn need
 refine au.j4 hT mB hm [1,1,0,1] (i:=0) (y:=part nP [1,1,0,1,0,0]) (z:=part nP [1,1,1]) ag ag ag KL.dst hk (f1:=[]) (f2:=[12]) 60 Bb 1 (fun i:Nat=>K1 n k i) (fun i=>[(0,gL i k)])
  (fun i=>i<=n) (fun i=>i=n) (fun i=>n-i) (fun _=>False) ⟨_,ang,?_⟩ (fun i hi=>⟨_,akJ,?_⟩) (fun i hi=>?_) (fun _ _ h=>h.elim)
 ·simp only[ah.all,aA]
  exact⟨aa,0,Nat.zero_le _,[(0,12288)],rfl,rfl,rfl,bJ rfl rfl rfl (fun i hi=>absurd hi (Nat.not_lt_zero i)) trivial⟩
 ·simp only[ah.all,aA,bq,bw,bn,Nat.add_zero]
  exact⟨fun h2=>⟨aa,aa,aa,i+1,aa,by dsimp only;omega,[(0,40961)],rfl,rfl,rfl,bJ rfl rfl rfl (fun j hj=>kU (fun _ _=>rfl) (Rat.add_zero _) aY (by decide) hj) trivial⟩,fun h2=>⟨rfl,i,aa,[(0,0)],rfl,rfl,rfl,bJ rfl rfl rfl (fun j hj=>cB rfl rfl) trivial⟩⟩
 ·subst hi
  refine au.bC hT mB hm 60 [2] ama ag fun s' hs'=>⟨.inr rfl,[2],_,[.own 0 3 0 i],_,0,_,hs',ag,⟨⟨rfl,bW (by simp[bp,look]) rfl rfl⟩,trivial⟩,rfl,jl rfl fun i hi=>gm rfl⟩
def N3:Spec:=pR fun K l=>match l with
 |[v]=>match(kL sJ).read v with
  |some ((n,k),q)=>some ⟨.own K 3 0 n,[(K,gL n k)],q++[n<2^40]⟩
  |none=>none
 |_=>none
theorem aeo:aW P N3 tu:=by
 refine wJ fun K args r hk hs=>?_
 split at hs
 ·rename_i v
  split at hs
  ·rename_i n k q hv
   simp only[az]at hs
   subst hs
   exact ajo (fun hn=>zB hk (by cases v<;>first|rfl|simp[kL,CH]at hv) ⟨(kL sJ).ok hv (dD.1 hn).1,trivial⟩) (fun hn=>(dD (a:=q) (b:=[n<2^40]).1 hn).2) K
  ·simp at hs
 ·simp at hs
theorem TV:aT P HS J6 (ay J6):=aU Proofs.Tryz.func185 ag ag ag
theorem akL:aT P Fj C6 (ay C6):=aU Proofs.Tryz.func86 ag ag ag
abbrev vM:Func:=J6
abbrev yw:Code:=ay vM
abbrev vZ:Code:=part yw [1,1,0,1,0,0]
abbrev uP:Code:=part vZ [1,0,0]
abbrev qw:Code:=part uP [1,0]
abbrev kE:List Nat:=[4,0,1,5]
abbrev zf (n i:Nat):List AV:=[.nil,.own 0 3 0 n,.func iC [],.int .i64 i]
abbrev Ea:List Nat:=[4,0,1,5,28]
abbrev JT (n i:Nat) (b:Bool):List AV:=[.nil,.own 0 3 0 n,.func iC [],.int .i64 i,.bool b]
abbrev Bk:List Nat:=[4,0,1,5,6,7]
abbrev wo (n m b j:Nat):List AV:=[.nil,.own 0 3 0 n,.func iC [],.int .i64 m,.own 0 3 b (n-b),.int .i64 j]
theorem aa2 {n:Nat} {k:Nat->Rat}:aG T ir [10] 60 kE (before yw [1,1,0,1]) ⟨aP 0 [.own 0 3 0 n,.func iC []],[(0,gL n k)],1⟩=
  let c2:Nat×ak:=(0,ak.mk true true 3 n fun i=>rat (k i) 4096);let c1:AV:=own 0 3 0 n;some (fork (decide ((↑n:Int)<2)) (leaf ret ([c1,c1,func iC [],tuple []],[c2])) (leaf normal ([nil,c1,func iC [],int i64 1],[c2]))):=ag
theorem adA {n i:Nat} {k:Nat->Rat}:aG T ir [15] 60 kE (before vZ [1,0]) ⟨aB kE (zf n i),[(0,gL n k)],1⟩=
  let c1:List AV×aE:=([nil,own 0 3 0 n,func iC [],int i64 (↑i:Int)],[(0,ak.mk true true 3 n fun i=>rat (k i) 4096)]);some (fork (decide ((↑i:Int)<(↑n:Int))) (leaf normal c1) (leaf (exit 0) c1)):=ag
theorem Zl {n i:Nat} {k:Nat->Rat}:aG T ir [] 60 Ea (before uP [1]) ⟨aB kE (zf n i),[(0,gL n k)],1⟩=
  let c4:Int:=(↑i:Int);let c2:Nat:=c4.toNat+0;let c1:Int:=c4-1;let c3:Nat:=c1.toNat+0;some (aj [(0:Int)<=c4/\c4.toNat<n,c2<n,-(2:Int)^63<=c1/\c1<2^63,(0:Int)<=c1/\c1.toNat<n,c3<n] (leaf normal ([nil,own 0 3 0 n,func iC [],int i64 c4,AV.bool (decide (k c2=k c3))],[(0,ak.mk true true 3 n fun i=>rat (k i) 4096)]))):=ag
theorem aer {n i:Nat} {b:Bool} {k:Nat->Rat}:aG T ir [] 60 Bk (before qw [1,0,1]) ⟨aB Ea (JT n i b),[(0,gL n k)],1⟩=
  let c2:Int:=(↑i:Int);let c1:Int:=(↑n:Int);some (aj [(0:Int)<=c2/\c2<=c1/\c1<=c1/\c1<=c1] (leaf normal ([nil,own 0 3 0 n,func iC [],int i64 c2,own 0 3 ((0:Nat)+c2.toNat) (c1.toNat-c2.toNat),int i64 1],[(0,ak.mk true true 3 n fun i=>rat (k i) 4096)]))):=ag
theorem am3 {n m b j:Nat} {k:Nat->Rat}:aG T ir [35,49] 60 Bk [part qw [1,0,1,0,0]] ⟨aB Bk (wo n m b j),[(0,gL n k)],1⟩=
  let c11:AV:=func iC [];let c7:AV:=own 0 3 b (n-b);let c6:Nat×ak:=(0,ak.mk true true 3 n fun i=>rat (k i) 4096);let c5:Int:=(↑m:Int);let c4:AV:=own 0 3 0 n;let c2:Int:=(2:Int)^63;let c1:Int:=(↑j:Int);let c13:Int:=c5+1;let c12:Prop:=(0:Int)<=c1/\c1.toNat<n-b;let c10:Nat:=c5.toNat+0;let c9:Nat:=c1.toNat+b;let c8:Int:=c1+1;let c3:Int:=c1-1;some (fork (decide (c1<(↑(n-b):Int))) (aj [c12,c9<n,-c2<=c3/\c3<c2,(0:Int)<=c3/\c3.toNat<n-b,c3.toNat+b<n] (fork (!decide (k c9=k (c3.toNat+b))) (aj [c12,c9<n,(0:Int)<=c5/\c5.toNat<n,c10<n] (aj [-c2<=c13/\c13<c2] (aj [-c2<=c8/\c8<c2] (leaf normal ([nil,c4,c11,int i64 c13,c7,int i64 c8],[(0,ak.mk true true 3 n fun j=>rat (bif j==c10 then k c9 else k j) (bif j==c10 then sK else sK))]))))) (aj [-c2<=c8/\c8<c2] (leaf normal ([nil,c4,c11,int i64 c5,c7,int i64 c8],[c6]))))) (leaf (exit 2) ([nil,c4,c11,int i64 c5,c7,int i64 c1],[c6]))):=ag
theorem aeZ {n m b j:Nat} {k:Nat->Rat}:aG T ir [] 60 kE [part qw [1,1]] ⟨aB Bk (wo n m b j),[(0,gL n k)],1⟩=
  let c4:Int:=(↑n:Int);let c2:Int:=(↑m:Int);let c3:Nat:=0+c2.toNat;let c1:Nat:=c3+(c4.toNat-c2.toNat);some (aj [(0:Int)<=c2/\c2<=c4/\c4<=c4/\c4<=c4] (aj [(0:Int)<=0/\(0:Int)<=c2/\c2<=c2/\c2<=c4] (leaf ret ([own 0 3 0 (c2.toNat-Int.toNat (0:Int)),own 0 3 0 n,func iC [],int i64 c2],[(0,ak.mk true true 3 n fun i=>if c3<=i/\i<c1 then rat 0 1 else rat (k i) sK)])))):=ag
theorem aol {n i:Nat} {b:Bool} {k:Nat->Rat}:aG T ir [] 60 kE [part uP [1,1],part vZ [1,1]] ⟨aB Ea (JT n i b),[(0,gL n k)],1⟩=
  let c1:Int:=(↑i:Int)+1;some (aj [-(2:Int)^63<=c1/\c1<2^63] (leaf normal ([nil,own 0 3 0 n,func iC [],int i64 c1],[(0,ak.mk true true 3 n fun i=>rat (k i) 4096)]))):=ag
theorem WN {n i:Nat} {k:Nat->Rat}:aG T ir [] 60 kE [part yw [1,1,1]] ⟨aB kE (zf n i),[(0,gL n k)],1⟩=
  let c1:AV:=own 0 3 0 n;some (leaf ret ([c1,c1,func iC [],int i64 (↑i:Int)],[(0,ak.mk true true 3 n fun i=>rat (k i) 4096)])):=ag
def l6 (k:Nat->Rat) (n i:Nat):Rat:=if i<cK k n then ee k n i else 0
theorem W1 {k:Nat->Rat} {n:Nat} (h:∀j,j<n->ia k j) {i:Nat} (hi:i<n):cK k n=n/\l6 k n i=k i:=by
 obtain⟨h1,h2⟩:=RX h
 unfold l6
 rw[h1,if_pos hi]
 exact⟨rfl,h2 i hi⟩
theorem ajB {kk n:Nat} {k:Nat->Rat} (hn:n<2^40) (c:Ctx) (hk:Kept [0] c):au P c vM.ntmps yw ⟨aP 0 [.own 0 3 0 n,.func iC []],[(0,gL n k)],1⟩ (Kw vM kk [.own kk 3 0 (cK k n)] (gL n (l6 k n))):=by
 have hall:∀{L:List Nat} {us:List AV},(∀j,j<n->ia k j)->mc (aB L us) vM.results.toList=some [.own 0 3 0 n]->Cr vM kk [.own kk 3 0 (cK k n)] (gL n (l6 k n)) L (us,[(0,gL n k)]):=fun h1 h2=>
  ⟨_,_,h2,⟨⟨rfl,bW (by simp[bp,look]) rfl (RX h1).1.symm⟩,trivial⟩,nS,rfl,rfl,rfl,rfl,fun i hi=>by
   show fR _ (.rat (k i) sK) (.rat (l6 k n i) sK)
   rw[(W1 h1 hi).2];exact gm rfl⟩
 refine au.tV hT mB hm [1,1,0,1] (i:=0) (y:=vZ) (z:=part yw [1,1,1]) ag ag ag TV.dst hk (f1:=[10]) 60 kE 1 (fun i:Nat=>zf n i) (fun _=>[(0,gL n k)]) (fun i=>1<=i/\i<=n/\∀j,j<i->ia k j) (fun i=>i=n/\∀j,j<n->ia k j) (fun i=>n-i)
  (Cr vM kk [.own kk 3 0 (cK k n)] (gL n (l6 k n)) kE) ⟨_,aa2,?_⟩ (fun i ⟨h1,h2,h3⟩=>?_) (fun i ⟨h1,h2⟩=>?_) (fun v s' hv hs'=>hv.fin hs')
 ·simp only[ah.all,aA,bq,bw]
  exact⟨fun h=>hall (fun j hj=>.inl aa) ag,fun h=>⟨1,⟨aa,aa,fun j hj=>.inl aa⟩,[(0,0)],rfl,rfl,rfl,bJ rfl rfl rfl (fun x hx=>cB rfl rfl) trivial⟩⟩
 ·refine au.ow hT mB hm (y:=vZ) (x1:=uP) (zb:=part vZ [1,1]) [1,0] (j:=1) ag ag ag ag hk (f1:=[15]) 60 kE 1 (fun _:Unit=>zf n i) (fun _=>[(0,gL n k)]) (fun _=>i<n) ⟨_,adA,?_⟩ (fun _ hlt=>?_)
  ·simp only[ah.all,aA,bq,bw]
   exact⟨fun h=>⟨(),aa,[(0,0)],rfl,rfl,rfl,bJ rfl rfl rfl (fun x hx=>cB rfl rfl) trivial⟩,fun h s' hs'=>⟨rfl,i,⟨aa,fun j hj=>h3 j aa⟩,cU.le ⟨[(0,0)],rfl,rfl,rfl,bJ rfl rfl rfl (fun x hx=>cB rfl rfl) trivial⟩ hs' hk⟩⟩
  refine au.branch hT mB hm (x:=uP) (u:=qw) (v:=part uP [1,1]) (b:=.tmp 28) [1] ag ag ag ag hk (f1:=[]) 60 Ea 1 (fun _:Unit=>JT n i (decide (k i=k (i-1)))) (fun _=>[(0,gL n k)]) (fun _=>True) ⟨_,Zl,?_⟩ (fun _ _=>⟨decide (k i=k (i-1)),rfl,fun hb=>?_,fun hb=>?_⟩)
  ·simp only[ah.all,aA]
   simp only[bn,Nat.add_zero,show((i:Int)-1).toNat=i-1 by omega]
   exact⟨⟨⟨aa,aa⟩,aa,aa,⟨aa,aa⟩,aa⟩,(),trivial,[(0,0)],rfl,rfl,rfl,bJ rfl rfl rfl (fun x hx=>cB rfl rfl) trivial⟩
  ·have hold:¬ia k i:=fun h=>by
    rcases h with h|h
    ·omega
    ·exact h (of_decide_eq_true hb)
   obtain⟨s1,s2⟩:=adI h3 hold
   refine au.oV hT mB hm (x:=qw) [1,0,1] (i:=2) (y:=part qw [1,0,1,0,0]) ag ag ag hk (f1:=[]) (f2:=[35,49]) 60 Bk 1 (fun j:Nat=>wo n (cK k (i+j)) i j) (fun j=>[(0,gL n (jE k (i+j)))]) (fun j=>1<=j/\i+j<=n) (fun j=>i+j=n) (fun j=>n-j) (fun _=>False) ⟨_,aer,?_⟩ (fun j ⟨j1,j2⟩=>⟨_,am3,?_⟩) (fun j s' hj hle=>?_) (fun _ _ h=>h.elim)
   ·simp only[ah.all,aA]
    simp only[bn,Nat.zero_add]
    refine⟨aa,1,⟨aa,aa⟩,[(0,0)],rfl,?_,rfl,bJ rfl rfl rfl (fun x hx=>cB rfl ?_) trivial⟩
    ·show _=(wo n (cK k (i+1)) i 1).map _
     rw[s1];rfl
    ·rw[s2]
   ·simp only[ah.all,aA,bq,bw]
    have hd:=Rr hold (l:=i+j) aa
    have e1:jE k (i+j) (j+i)=k (i+j):=by rw[Nat.add_comm j i];exact NN aa
    have e2:jE k (i+j) (((j:Int)-1).toNat+i)=k (i+j-1):=by rw[show((j:Int)-1).toNat+i=i+j-1 by omega];exact NN aa
    simp only[bn,Nat.add_zero,e1,e2,Bool.not_eq_true',Bool.not_eq_false',bq,bw]
    refine⟨fun h=>⟨aa,fun hne=>⟨aa,aa,aa,j+1,aa,by dsimp only;omega,[(0,0)],rfl,?_,rfl,bJ rfl rfl rfl (fun x hx=>?_) trivial⟩,fun heq=>⟨aa,j+1,aa,by dsimp only;omega,[(0,0)],rfl,?_,rfl,bJ rfl rfl rfl (fun x hx=>?_) trivial⟩⟩,fun h=>⟨rfl,j,aa,[(0,0)],rfl,rfl,rfl,bJ rfl rfl rfl (fun x hx=>cB rfl rfl) trivial⟩⟩
    ·show _=(wo n (cK k (i+j+1)) i (j+1)).map _
     rw[agd (l:=i+j) (.inr hne)];rfl
    ·refine .inr ⟨rfl,bO ?_ (by cases (x==cK k (i+j))<;>exact Nat.le_refl _)⟩
     show _=jE k (i+j+1) x
     rw[abN (.inr hne) aa]
     by_cases hx2:x=cK k (i+j)
     ·subst hx2;simp
     ·have:(x==cK k (i+j))=false:=by simpa using hx2
      rw[this,if_neg hx2];rfl
    ·have hold2:¬ia k (i+j):=fun h=>by
      rcases h with h|h
      ·omega
      ·exact h heq
     show _=(wo n (cK k (i+j+1)) i (j+1)).map _
     rw[OR hold2];rfl
    ·have hold2:¬ia k (i+j):=fun h=>by
      rcases h with h|h
      ·omega
      ·exact h heq
     exact cB rfl (by show _=AV.rat (jE k (i+j+1) x) sK;rw[(anl hold2).2])
   ·rw[show behind qw [1,0,1]=[part qw [1,1]]from by kernel_rfl]
    refine aH.weak rfl hle (aH.bC hT mB hm 60 kE aeZ ag ?_)
    simp only[ah.all,aA]
    rw[hj]
    have hd:=uf (k:=k) (n:=n)
    simp only[bn,Nat.zero_add]
    refine⟨aa,aa,fun s' hs'=>⟨_,⟨[.own 0 3 0 (cK k n)],⟨true,true,3,n,fun i=>if cK k n<=i/\i<cK k n+(n-cK k n)then .rat 0 1 else .rat (jE k n i) sK⟩,ag,⟨⟨rfl,bW (by simp[bp,look]) rfl rfl⟩,trivial⟩,rfl,⟨rfl,rfl,rfl,rfl,fun x hx=>?_⟩⟩,hs'⟩⟩
    have hx:x<n:=hx
    refine mZ (nQ rfl rfl) ?_
    show bN (if _ then _ else _) (.rat (l6 k n x) sK)
    unfold l6
    by_cases h:x<cK k n
    ·rw[if_neg aa,if_pos h]
     exact dO (by unfold jE;rw[if_pos h])
    ·rw[if_pos aa,if_neg h]
     exact eR (by decide)
  ·have hnew:ia k i:=.inr (of_decide_eq_false hb)
   refine au.tail (fun s' hh=>by have:=hh.1;omega) (aH.bC hT mB hm 60 kE aol ag ?_)
   simp only[ah.all,aA]
   refine⟨aa,fun s' hs'=>⟨i+1,⟨aa,aa,fun j hj=>?_⟩,by dsimp only;omega,cU.le ⟨[(0,0)],rfl,rfl,rfl,bJ rfl rfl rfl (fun x hx=>cB rfl rfl) trivial⟩ hs' hk⟩⟩
   by_cases he:j=i
   ·subst he;exact hnew
   ·exact h3 j aa
 ·subst h1
  refine au.bC hT mB hm 60 kE WN ag ?_
  simp only[ah.all,aA]
  exact fun s' hs'=>(hall h2 ag).fin hs'
def La (f:Nat->AV) (n s:Nat):Prop:=∀i,i<n->keys (f i)=[]/\bN (f i) (.rat (aL (f i)) s)
theorem amc {k:Nat->Rat} {n s s':Nat} (h:s<=s'):La (fun i=>.rat (k i) s) n s':=fun _ _=>⟨rfl,eR h⟩
def HI:Spec:=fun _ args pre=>match args,pre with
 |[.own k 3 0 n,.func g []],[(k',⟨true,true,3,m,f⟩)]=>match Nat.beq g iC&&k'==k with
  |true=>some ⟨jh [.own k 3 0 (cK (fun i=>aL (f i)) n)],[(k,gL n (l6 (fun i=>aL (f i)) n))],[m=n,La f n sK,n<2^40]⟩
  |false=>none
 |_,_=>none
theorem alJ:aW P HI HS:=by
 intro K args pre r h
 unfold HI at h
 split at h
 ·rename_i k n g k' m f
  split at h
  ·rename_i hc
   simp only[Bool.and_eq_true,beq_iff_eq]at hc
   obtain⟨h1,h2⟩:=hc
   have h1:=Nat.eq_of_beq_eq_true h1
   subst h1 h2
   simp only[az]at h
   subst h
   intro need
   have h0:=need
   obtain⟨rfl,n1,n2⟩:=need
   exact Xx hT TV (rest:=[.func iC []]) (o2:=⟨true,true,3,m,f⟩) (o:=gL m fun i=>aL (f i)) rfl rfl aX (fun ρ=>⟨rfl,rfl,rfl,rfl,fun i hi=>mZ (n1 i hi).1 (n1 i hi).2⟩) (fun _ c hk=>ajB n2 c hk) K h0
  ·simp at h
 ·simp at h
theorem ah4:aT P Gg Dk (ay Dk):=aU Proofs.Tryz.func197 ag ag ag
abbrev z9:Code:=ay Dk
abbrev zE:List Nat:=[4,0,1,5]
abbrev Lp (n:Nat) (k:Nat->Rat) (i:Nat):List AV:=[.bool false,ls k n,.func lC [],.int .i64 ((i:Int)-1)]
def RP:bf:=[(tu,N3),(HS,HI)]
theorem afn {n:Nat} {k:Nat->Rat}:aG T ir [] 60 zE (before z9 [1,0,1]) ⟨aP 0 [ls k n,.func lC []],[],0⟩=
  let c1:Int:=(↑n:Int)-1;some (aj [-(2:Int)^63<=c1/\c1<2^63] (leaf normal ([AV.bool false,aq 3 n fun i=>rat (k i) 4096,func lC [],int i64 c1],[]))):=ag
theorem afo {n i:Nat} {k:Nat->Rat}:aG T ir [10,24] 60 zE [part z9 [1,0,1,0,0]] ⟨aB zE (Lp n k i),[],1⟩=
  let c5:AV:=aq 3 n fun i=>rat (k i) 4096;let c4:Int:=(2:Int)^63;let c1:Int:=(↑i:Int)-1;let c3:List AV:=[AV.bool false,c5,func lC [],int i64 c1];let c2:Int:=c1-1;let c6:Int:=eV (k c1.toNat) (k c2.toNat);some (fork (decide (c1>0)) (aj [(0:Int)<=c1/\c1.toNat<n,-c4<=c2/\c2<c4,(0:Int)<=c2/\c2.toNat<n] (fork (decide (c6<0)) (leaf ret (c3,[])) (aj [-c4<=c2/\c2<c4] (leaf normal ([AV.bool false,c5,func lC [],int i64 c2],[]))))) (leaf (exit 0) (c3,[]))):=ag
theorem Ys {n i:Nat} {k:Nat->Rat}:cj T ir [] 60 Dk [part z9 [1,1]] ⟨aB zE (Lp n k i),[],1⟩=
  some (leaf ret [AV.bool true]):=ag
theorem acW {n:Nat} {k:Nat->Rat}:bU T RP [] 60 C6 (ay C6) ⟨aP 0 [br k n sJ],[],0⟩=
  let c1:Prop:=n<2^40;some (aj [bt (fun i=>rat (k i) sJ) n sJ,c1,n=n,La (fun i=>rat (aL (rat (k i) sJ)) sK) n sK,c1] (leaf ret [aq 3 (cK (fun i=>aL (rat (aL (rat (k i) sJ)) sK)) n) fun i=>rat (l6 (fun i=>aL (rat (aL (rat (k i) sJ)) sK)) n (i+0)) 4096])):=ag
def kF (g:FuncId):Kind Unit:=⟨fun v=>match v with
 |.func f []=>match Nat.beq f g with
  |true=>some ((),[])
  |false=>none
 |_=>none,fun _=>.func g [],fun {v a q} h _=>by
  split at h
  ·split at h
   ·rename_i hb
    rw[Nat.eq_of_beq_eq_true hb];exact .refl _
   ·simp at h
  ·simp at h⟩
def rF (p:Prop):Bool:=@decide p (Classical.propDecidable p)
theorem anz {p:Prop} (h:p):rF p=true:=@decide_eq_true p (Classical.propDecidable p) h
theorem aio {p:Prop} (h:¬p):rF p=false:=@decide_eq_false p (Classical.propDecidable p) h
theorem ahF {p:Prop} (h:rF p=true):p:=@of_decide_eq_true p (Classical.propDecidable p) h
theorem alS {p:Prop} (h:rF p=false):¬p:=@of_decide_eq_false p (Classical.propDecidable p) h
theorem alm {n:Nat} {k:Nat->Rat} (hn:n<2^40) (K:Nat):aQ P Gg K [ls k n,.func lC []] [] (aJ (.bool (rF (rW n k))) []):=by
 refine ij (r:=aJ (.bool (rF (rW n k))) []) hT mB hm ah4 rfl aX rfl [1,0,1] (i:=0) (y:=part z9 [1,0,1,0,0]) (z:=part z9 [1,1]) ag ag ag (f1:=[]) (f2:=[10,24]) (f3:=[]) 60 zE 1
  (fun i:Nat=>Lp n k i) (fun _=>[]) (fun i=>i<=n/\∀j,i<=j+1->j+1<n->k j<=k (j+1)) (fun _=>rW n k) (fun i=>i) (fun _=>⟨⟨_,afn,?_⟩,fun i ⟨h1,h2⟩=>⟨_,afo,?_⟩,fun i hi=>⟨_,Ys,?_⟩⟩) K []
 ·simp only[ah.all,aA]
  exact⟨aa,n,⟨aY,fun j h1 h2=>aa⟩,cU.vals rfl⟩
 ·simp only[ah.all,aA,bq,bw,ni]
  refine⟨fun h=>⟨aa,fun hlt=>⟨[.bool false],ag,gl ?_⟩,fun hle=>⟨aa,i-1,⟨aa,fun j g1 g2=>?_⟩,by dsimp only;omega,[],rfl,?_,rfl,trivial⟩⟩,fun h=>⟨rfl,i,fun j hj=>h2 j aa hj,[],rfl,rfl,rfl,trivial⟩⟩
  ·refine(aio fun hs=>?_).symm
   have:=hs (i-2) aa
   rw[show((i:Int)-1).toNat=i-2+1 by omega,show((i:Int)-1-1).toNat=i-2 by omega]at hlt
   grind
  ·by_cases he:j+2=i
   ·rw[show((i:Int)-1).toNat=j+1 by omega,show((i:Int)-1-1).toNat=j by omega]at hle
    grind
   ·exact h2 j aa g2
  ·show _=[_,_,_,AV.int .i64 (((i-1:Nat):Int)-1)]
   rw[show((i-1:Nat):Int)-1=(i:Int)-1-1 by omega];rfl
 ·simp only[ah.all,aA]
  exact gl (anz hi).symm
def PG:Spec:=cq (kC (kL sK) (kC (kF lC) kN)) (fun a=>.bool (rF (rW a.1.1 a.1.2))) fun a=>[a.1.1<2^40]
theorem abp:aW P PG Gg:=ck fun⟨⟨n,k⟩,_,_⟩ K hn=>alm hn K
def MF:Spec:=cq (kC (kL sJ) kN) (fun a=>ls (ee a.1.2 a.1.1) (cK a.1.2 a.1.1)) fun a=>[a.1.1<2^40]
theorem X3:bu P RP:=aI aeo (aI alJ bz)
theorem Qu:aW P MF Fj:=ck fun⟨⟨n,k⟩,_⟩ K hn=>by
 have hn:n<2^40:=hn
 refine bZ (r:=aJ (ls (ee k n) (cK k n)) []) hT X3 hm akL rfl aX rfl 60 acW (fun _=>?_) K []
 simp only[ah.all,aA]
 exact⟨⟨bP aY,hn,trivial,amc aY,hn⟩,nv rfl fun i hi=>by
  show AV.rat (l6 k n (i+0)) sK=_
  have hi:i<cK k n:=hi
  rw[Nat.add_zero];unfold l6;rw[if_pos hi]⟩
end Go.Am.B
