/- aR for numbers of known size: the numbers. -/
import Derived.Test.YtppeigelbecpbaaGreatB34
import Derived.Test.YtppeigelbecpbaaGreatZ2
set_option linter.unusedVariables false
namespace Go.Am.B
open Go Go.Am.N AV
structure Kd (α:Type) where
 read:AV→Option α
 make:α→AV
 ok:∀{v:AV} {a:α},read v=some a→bA v (make a)
def FU:AV→Option (V3×Nat)
 |.agg [x,y,z]=>match ic x,ic y,ic z with
  |some (x,a),some (y,b),some (z,c)=>some (⟨x,y,z⟩,max a (max b c))
  |_,_,_=>none
 |_=>none
theorem ad3 {v:AV} {a:V3×Nat} (h:FU v=some a):bA v (vA a.1 a.2):=by
 unfold FU at h
 split at h
 ·split at h
  ·rename_i h1 h2 h3
   simp only[Option.some.injEq]at h
   subst h
   exact bQ ⟨(jg h1).trans (bp rfl (by simp only;omega)),(jg h2).trans (bp rfl (by simp only;omega)),(jg h3).trans (bp rfl (by simp only;omega)),trivial⟩
  ·simp at h
 ·simp at h
def dR:Kd (Rat×Nat):=⟨ic,fun a=>rA a.1 a.2,jg⟩
def dV:Kd (V3×Nat):=⟨FU,fun a=>vA a.1 a.2,ad3⟩
section specs
variable {α β γ δ:Type} {f:FuncId}
def Ht (k:Kd α) (g:α→AV) (B:α→Bool):Spec:=bB fun l=>match l with
 |[x]=>match k.read x with
  |some a=>match B a with
   |true=>some (aI (g a) [])
   |false=>none
  |_=>none
 |_=>none
theorem Nt {k:Kd α} {g:α→AV} {B:α→Bool} (h:∀a K,B a=true→aA P f K [k.make a] [] (aI (g a) [])):∀K args pre r,Ht k g B K args pre=some r→aA P f K args pre r:=by
 refine bS fun K args r hk hs _=>?_
 split at hs
 ·split at hs
  ·rename_i h1
   split at hs
   ·rename_i hB
    simp only[Option.some.injEq]at hs
    subst hs
    exact fN (h _ K hB) hk ⟨k.ok h1,trivial⟩ []
   ·simp at hs
  ·simp at hs
 ·simp at hs
def jj (k:Kd α) (k2:Kd β) (g:α→β→AV) (B:α→β→Bool):Spec:=bB fun l=>match l with
 |[x,y]=>match k.read x,k2.read y with
  |some a,some b=>match B a b with
   |true=>some (aI (g a b) [])
   |false=>none
  |_,_=>none
 |_=>none
theorem jF {k:Kd α} {k2:Kd β} {g:α→β→AV} {B:α→β→Bool} (h:∀a b K,B a b=true→aA P f K [k.make a,k2.make b] [] (aI (g a b) [])):∀K args pre r,jj k k2 g B K args pre=some r→aA P f K args pre r:=by
 refine bS fun K args r hk hs _=>?_
 split at hs
 ·split at hs
  ·rename_i h1 h2
   split at hs
   ·rename_i hB
    simp only[Option.some.injEq]at hs
    subst hs
    exact fN (h _ _ K hB) hk ⟨k.ok h1,k2.ok h2,trivial⟩ []
   ·simp at hs
  ·simp at hs
 ·simp at hs
end specs
def b1 {α:Type} (e:Nat) (a:α×Nat):Bool:=Nat.blt a.2 (2^e)
def b2 {α β:Type} (e:Nat) (a:α×Nat) (b:β×Nat):Bool:=Nat.blt a.2 (2^e)&&Nat.blt b.2 (2^e)
def b3 {α β γ:Type} (e:Nat) (a:α×Nat) (b:β×Nat) (c:γ×Nat):Bool:=Nat.blt a.2 (2^e)&&(Nat.blt b.2 (2^e)&&Nat.blt c.2 (2^e))
theorem Pp {a b:Nat}:Nat.blt a b=true↔a<b:=by rw[Nat.blt_eq]
theorem YX {α:Type} {e:Nat} {a:α×Nat} (h:b1 e a=true):a.2<2^e:=Pp.1 h
theorem fe {α β:Type} {e:Nat} {a:α×Nat} {b:β×Nat} (h:b2 e a b=true):a.2<2^e∧b.2<2^e:=by
 simp only[b2,Bool.and_eq_true,Pp]at h;exact h
def A0:Spec:=bB fun l=>match l with
 |[.int .i64 n]=>match decide (-2^63≤n∧n<2^63)with
  |true=>some (aI (.rat (n:Rat) (max 1 (br n.natAbs))) [])
  |false=>none
 |_=>none
abbrev Hu:FuncId×Spec:=(pE,A0)
abbrev Gc:FuncId×Spec:=(Be,jj dR dR abq (b2 42))
abbrev Em:FuncId×Spec:=(Ce,jj dR dR ajE (b2 42))
def vj:aR:=[(xW,jj dR dR kz (b2 42)),(Ae,jj dR dR tN (b2 42)),(uv,jj dR dR B3 (b2 42)),(fT,jj dR dR Ba (b2 42)),(jb,jj dR dR Bn (b2 42)),(qb,Ht dR DF (b1 42)),Hu,(o4,jj dR dR sj (b2 42)),Gc,Em]
def ny:aR:=[(p4,jj dR dR kz (b2 41)),(yA,jj dR dR tN (b2 41)),(wE,jj dR dR B3 (b2 41)),(AO,jj dR dR Ba (b2 41)),(vu,jj dR dR Bn (b2 41)),(qP,Ht dR DF (b1 41)),(lJ,A0)]
theorem F2 {n:Nat} (h:n<2^42):n<2^44:=Nat.lt_trans h (by omega)
theorem Kr {n:Nat} (h:n<2^41):n<2^44:=Nat.lt_trans h (by omega)
theorem Fo {f:FuncId} (h:∀{n:Int},-2^63≤n→n<2^63→∀K,aA P f K [.int .i64 n] [] (aI (.rat (n:Rat) (max 1 (br n.natAbs))) [])):∀K args pre r,A0 K args pre=some r→aA P f K args pre r:=by
 refine bS fun K args r hk hs _=>?_
 split at hs
 ·split at hs
  ·rename_i hc
   simp only[Option.some.injEq]at hs
   subst hs
   have:=of_decide_eq_true hc
   exact h this.1 this.2 K
  ·simp at hs
 ·simp at hs
theorem aiS:∀K args pre r,Hu.2 K args pre=some r→aA P Hu.1 K args pre r:=Fo E2
theorem aid:∀K args pre r,Gc.2 K args pre=some r→aA P Gc.1 K args pre r:=jF fun _ _ K hn=>ach (fe hn).1 (fe hn).2 K
theorem ZD:∀K args pre r,Em.2 K args pre=some r→aA P Em.1 K args pre r:=jF fun _ _ K hn=>aij (fe hn).1 (fe hn).2 K
theorem A3:aX P vj:=aJ (jF fun _ _ K hn=>Nk (fe hn).1 (fe hn).2 K) (aJ (jF fun _ _ K hn=>Qa (fe hn).1 (fe hn).2 K) (aJ (jF fun _ _ K hn=>K7 (fe hn).1 (fe hn).2 K)
 (aJ (jF fun _ _ K hn=>Jm (F2 (fe hn).1) (F2 (fe hn).2) K []) (aJ (jF fun _ _ K hn=>DK (fe hn).1 (fe hn).2 K []) (aJ (Nt fun _ K hn=>HK (F2 (YX hn)) K []) (aJ aiS
 (aJ (jF fun _ _ K hn=>vt (fe hn).1 (fe hn).2 K) (aJ aid (aJ ZD bn)))))))))
theorem o9:aX P ny:=aJ (jF fun _ _ K hn=>Gg (fe hn).1 (fe hn).2 K) (aJ (jF fun _ _ K hn=>Lz (fe hn).1 (fe hn).2 K) (aJ (jF fun _ _ K hn=>Mn (fe hn).1 (fe hn).2 K)
 (aJ (jF fun _ _ K hn=>MR (Kr (fe hn).1) (Kr (fe hn).2) K []) (aJ (jF fun _ _ K hn=>MM (fe hn).1 (fe hn).2 K) (aJ (Nt fun _ K _=>Hr K []) (aJ (Fo O2) bn))))))
end Go.Am.B

/- ref02: Quo, Over. -/
namespace Go.Am.B
open Go Go.Am.N AV
theorem Wc:aO P B6 y6 (au y6):=aP VZ (by kernel_rfl) (by kernel_rfl) (by kernel_rfl)
theorem akf:aO P Ca Aa (au Aa):=aP RB (by kernel_rfl) (by kernel_rfl) (by kernel_rfl)
theorem aiH {q r:Rat} {n m:Nat}:bC T pZ [9] 60 y6 (au y6) ⟨aN 0 [.rat q n,.rat r m],[],0⟩=
  some (aa.ag [(0:Nat)<1] (aa.fork ((↑(nl r.num.natAbs):Int)==(0:Int)) (aa.ag [(0:Nat)<1] (aa.ag [(0:Nat)<1] (aa.leaf ak.ret [agg [AV.bool false,mag 0,mag 0],int IntKind.i64 (3:Int)]))) (aa.ag [(0:Nat)<1,(0:Nat)<1,(0:Nat)<1,(0:Nat)<1,nl q.num.natAbs<2^39,nl r.den<2^39,(0:Nat)<1,(0:Nat)<1,nl q.den<2^39,nl r.num.natAbs<2^39,nl (q.num.natAbs*r.den)<2^38,nl (q.den*r.num.natAbs)<2^38,q.den*r.num.natAbs≠0,(0:Nat)<1] (aa.ag [(0:Nat)<1] (aa.leaf ak.ret [rat (sQ (decide (q<0)!=decide (r<0)) (q.num.natAbs*r.den) (q.den*r.num.natAbs)) (cq (sQ (decide (q<0)!=decide (r<0)) (q.num.natAbs*r.den) (q.den*r.num.natAbs))),int IntKind.i64 (0:Int)]))))):=by kernel_rfl
theorem ag1 {q r:Rat} {n m:Nat} (hn:n<2^41) (hm':m<2^41) (K:Nat):aA P B6 K [.rat q n,.rat r m] [] (aI (.tuple [.rat (q/r) (n+m),.int .i64 (if r=0 then 3 else 0)]) []):=by
 refine iA fun⟨hq,hr,_⟩=>?_
 have hq:Sz q n:=hq
 have hr:Sz r m:=hr
 have d1:=q.den_nz
 have d2:=r.den_nz
 have a1:nl q.num.natAbs<2^38:=eG hq.1 (by omega)
 have a2:nl q.den<2^38:=eG hq.2 (by omega)
 have b1:nl r.num.natAbs<2^38:=eG hr.1 (by omega)
 have b2:nl r.den<2^38:=eG hr.2 (by omega)
 have m1:nl (q.num.natAbs*r.den)<2^38:=eG (m9 hq.1 hr.2) (by omega)
 have m3:nl (q.den*r.num.natAbs)<2^38:=eG (m9 hq.2 hr.1) (by omega)
 refine bF hT tc hm Wc rfl (of_decide_eq_true (by kernel_rfl)) rfl 60 aiH (fun _=>?_) K []
 have key:((nl r.num.natAbs:Int)==(0:Int))=decide (r=0):=by
  by_cases h:r=0
  ·subst h;rfl
  ·have h1:r.num.natAbs≠0:=fun e=>h (lM.1 e)
   have:=fo.2 h1
   simp only[h,decide_false,beq_eq_false_iff_ne];omega
 rw[key]
 simp only[aa.all,ax,decide_eq_true_eq,decide_eq_false_iff_not]
 refine⟨by omega,fun h0=>?_,fun h0=>?_⟩
 ·refine⟨by omega,by omega,?_,bt (by rw[if_pos h0]),trivial⟩
  have e:q/r=0:=by rw[h0,Rat.div_def,Rat.inv_zero,Rat.mul_zero]
  obtain⟨k,hk⟩:∃k,n+m=k+1:=⟨n+m-1,by have:=hq.pos;omega⟩
  rw[e,hk]
  first|exact kq|exact eW (by omega)
 ·have hr0:r.num.natAbs≠0:=fun h=>h0 (lM.1 h)
  have hv:=DW q r h0
  (repeat' with_reducible refine And.intro ?_ ?_)
  all_goals first|omega|exact m1|exact m3|exact Nat.mul_ne_zero d1 hr0|skip
  exact⟨fI hv (hq.div hr),bt (by rw[if_neg h0]),trivial⟩
def I4:aR:=[(B6,gI kR kR sj qg)]
theorem Xa:aX P I4:=aJ (gZ fun _ _ K hn=>ag1 hn.1 hn.2 K) bn
theorem aam {q r:Rat} {n m:Nat}:bC T I4 [] 60 Aa (au Aa) ⟨aN 0 [.rat q n,.rat r m],[],0⟩=
  some (aa.ag [(0:Nat)<1,(0:Nat)<1,n<2^41,m<2^41,(0:Nat)<1] (aa.ag [(0:Nat)<1,(0:Nat)<1] (aa.ag [(0:Nat)<1] (aa.leaf ak.ret [rat (q/r) (n+m)])))):=by kernel_rfl
theorem ahT {q r:Rat} {n m:Nat} (hn:n<2^41) (hm':m<2^41) (K:Nat):aA P Ca K [.rat q n,.rat r m] [] (aI (.rat (q/r) (n+m)) []):=by
 refine bF hT Xa hm akf rfl (of_decide_eq_true (by kernel_rfl)) rfl 60 aam (fun _=>?_) K []
 simp only[aa.all,ax]
 (repeat' with_reducible refine And.intro ?_ ?_)
 all_goals first|omega|exact bA.refl _
def EY (a b:Rat×Nat):AV:=rA (a.1/b.1) (a.2+b.2)
end Go.Am.B
