/- aT for numbers of known size: the numbers. -/
import Derived.Test.YtppeigelbecpbaaGreatB34
import Derived.Test.YtppeigelbecpbaaGreatZ2
set_option linter.unusedVariables false
namespace Go.Am.B
open Go Go.Am.N AV
structure Kd (α:Type) where
 read:AV→Option α
 make:α→AV
 ok:∀{v:AV} {a:α},read v=some a→bt v (make a)
def Aa:AV→Option (V3×Nat)
 |.agg [x,y,z]=>match gv x,gv y,gv z with
  |some (x,a),some (y,b),some (z,c)=>some (⟨x,y,z⟩,max a (max b c))
  |_,_,_=>none
 |_=>none
theorem RW {v:AV} {a:V3×Nat} (h:Aa v=some a):bt v (vA a.1 a.2):=by
 unfold Aa at h
 split at h
 ·split at h
  ·rename_i h1 h2 h3
   simp only[Option.some.injEq]at h
   subst h
   exact dJ ⟨(ij h1).trans (bP rfl (by simp only;omega)),(ij h2).trans (bP rfl (by simp only;omega)),(ij h3).trans (bP rfl (by simp only;omega)),trivial⟩
  ·simp at h
 ·simp at h
def dR:Kd (Rat×Nat):=⟨gv,fun a=>rA a.1 a.2,ij⟩
def dV:Kd (V3×Nat):=⟨Aa,fun a=>vA a.1 a.2,RW⟩
section specs
variable {α β γ δ:Type} {f:FuncId}
def yU (k:Kd α) (g:α→AV) (B:α→Bool):Spec:=bq fun l=>match l with
 |[x]=>match k.read x with
  |some a=>match B a with
   |true=>some (aG (g a) [])
   |false=>none
  |_=>none
 |_=>none
theorem EJ {k:Kd α} {g:α→AV} {B:α→Bool} (h:∀a K,B a=true→aB P f K [k.make a] [] (aG (g a) [])):∀K args pre r,yU k g B K args pre=some r→aB P f K args pre r:=by
 refine bL fun K args r hk hs _=>?_
 split at hs
 ·split at hs
  ·rename_i h1
   split at hs
   ·rename_i hB
    simp only[Option.some.injEq]at hs
    subst hs
    exact eO (h _ K hB) hk ⟨k.ok h1,trivial⟩ []
   ·simp at hs
  ·simp at hs
 ·simp at hs
def hU (k:Kd α) (k2:Kd β) (g:α→β→AV) (B:α→β→Bool):Spec:=bq fun l=>match l with
 |[x,y]=>match k.read x,k2.read y with
  |some a,some b=>match B a b with
   |true=>some (aG (g a b) [])
   |false=>none
  |_,_=>none
 |_=>none
theorem iI {k:Kd α} {k2:Kd β} {g:α→β→AV} {B:α→β→Bool} (h:∀a b K,B a b=true→aB P f K [k.make a,k2.make b] [] (aG (g a b) [])):∀K args pre r,hU k k2 g B K args pre=some r→aB P f K args pre r:=by
 refine bL fun K args r hk hs _=>?_
 split at hs
 ·split at hs
  ·rename_i h1 h2
   split at hs
   ·rename_i hB
    simp only[Option.some.injEq]at hs
    subst hs
    exact eO (h _ _ K hB) hk ⟨k.ok h1,k2.ok h2,trivial⟩ []
   ·simp at hs
  ·simp at hs
 ·simp at hs
end specs
def b1 {α:Type} (e:Nat) (a:α×Nat):Bool:=Nat.blt a.2 (2^e)
def b2 {α β:Type} (e:Nat) (a:α×Nat) (b:β×Nat):Bool:=Nat.blt a.2 (2^e)&&Nat.blt b.2 (2^e)
def b3 {α β γ:Type} (e:Nat) (a:α×Nat) (b:β×Nat) (c:γ×Nat):Bool:=Nat.blt a.2 (2^e)&&(Nat.blt b.2 (2^e)&&Nat.blt c.2 (2^e))
theorem Es {a b:Nat}:Nat.blt a b=true↔a<b:=by rw[Nat.blt_eq]
theorem Lg {α:Type} {e:Nat} {a:α×Nat} (h:b1 e a=true):a.2<2^e:=Es.1 h
theorem ef {α β:Type} {e:Nat} {a:α×Nat} {b:β×Nat} (h:b2 e a b=true):a.2<2^e∧b.2<2^e:=by
 simp only[b2,Bool.and_eq_true,Es]at h;exact h
def x4:Spec:=bq fun l=>match l with
 |[.int .i64 n]=>match decide (-2^63≤n∧n<2^63)with
  |true=>some (aG (.rat (n:Rat) (max 1 (aY n.natAbs))) [])
  |false=>none
 |_=>none
abbrev AB:FuncId×Spec:=(oe,x4)
abbrev BK:FuncId×Spec:=(yN,hU dR dR Tl (b2 42))
abbrev AG:FuncId×Spec:=(wC,hU dR dR Rt (b2 42))
def B2:aT:=[(tu,hU dR dR mK (b2 42)),(qA,hU dR dR AP (b2 42)),(rI,hU dR dR zD (b2 42)),(fk,hU dR dR BD (b2 42)),(hJ,hU dR dR BS (b2 42)),(mG,yU dR Br (b1 42)),AB,(pU,hU dR dR B3 (b2 42)),BK,AG]
def BO:aT:=[(ou,hU dR dR mK (b2 41)),(wQ,hU dR dR AP (b2 41)),(xG,hU dR dR zD (b2 41)),(xS,hU dR dR BD (b2 41)),(xj,hU dR dR BS (b2 41)),(qo,yU dR Br (b1 41)),(oC,x4)]
theorem AK {n:Nat} (h:n<2^42):n<2^44:=Nat.lt_trans h (by omega)
theorem Io {n:Nat} (h:n<2^41):n<2^44:=Nat.lt_trans h (by omega)
theorem AQ {f:FuncId} (h:∀{n:Int},-2^63≤n→n<2^63→∀K,aB P f K [.int .i64 n] [] (aG (.rat (n:Rat) (max 1 (aY n.natAbs))) [])):∀K args pre r,x4 K args pre=some r→aB P f K args pre r:=by
 refine bL fun K args r hk hs _=>?_
 split at hs
 ·split at hs
  ·rename_i hc
   simp only[Option.some.injEq]at hs
   subst hs
   have:=of_decide_eq_true hc
   exact h this.1 this.2 K
  ·simp at hs
 ·simp at hs
theorem OG:∀K args pre r,AB.2 K args pre=some r→aB P AB.1 K args pre r:=AQ BY
theorem Tk:∀K args pre r,BK.2 K args pre=some r→aB P BK.1 K args pre r:=iI fun _ _ K hn=>Qr (ef hn).1 (ef hn).2 K
theorem UZ:∀K args pre r,AG.2 K args pre=some r→aB P AG.1 K args pre r:=iI fun _ _ K hn=>Xc (ef hn).1 (ef hn).2 K
theorem F4:bp P B2:=aK (iI fun _ _ K hn=>Fa (ef hn).1 (ef hn).2 K) (aK (iI fun _ _ K hn=>HY (ef hn).1 (ef hn).2 K) (aK (iI fun _ _ K hn=>Gs (ef hn).1 (ef hn).2 K)
 (aK (iI fun _ _ K hn=>D0 (AK (ef hn).1) (AK (ef hn).2) K []) (aK (iI fun _ _ K hn=>AN (ef hn).1 (ef hn).2 K []) (aK (EJ fun _ K hn=>BV (AK (Lg hn)) K []) (aK OG
 (aK (iI fun _ _ K hn=>Bx (ef hn).1 (ef hn).2 K) (aK Tk (aK UZ br)))))))))
theorem Ca:bp P BO:=aK (iI fun _ _ K hn=>Dl (ef hn).1 (ef hn).2 K) (aK (iI fun _ _ K hn=>Xe (ef hn).1 (ef hn).2 K) (aK (iI fun _ _ K hn=>Wq (ef hn).1 (ef hn).2 K)
 (aK (iI fun _ _ K hn=>JT (Io (ef hn).1) (Io (ef hn).2) K []) (aK (iI fun _ _ K hn=>Sl (ef hn).1 (ef hn).2 K) (aK (EJ fun _ K _=>DK K []) (aK (AQ Fb) br))))))
end Go.Am.B

/- ref02: Quo, Over. -/
namespace Go.Am.B
open Go Go.Am.N AV
end Go.Am.B
