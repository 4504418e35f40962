/- vector: Det, Orient2, Orient3, Through, Side, Volume, Turn, Apply, transposed, Identity. -/
import Derived.Test.YtgfjdngnneoeoaaGreatB35
set_option linter.unusedVariables false
namespace Go.Am.B
open Go Go.Am.N AV Proofs.Tryz
theorem RN:aX 103 f103:=aM func103
def n1 {α:Type} (a:α×Nat):List Prop:=[a.2<2^38]
def HQ:aV:=(75,fL kV kV sj gd)::(76,fL kV kV uv gd)::(166,fL kV kV qN gd)::(73,fL kV kV pB gd)::(74,wZ kV yo n1)::(72,fL kV kV qe gd)::eV
theorem ahi:bg P HQ:=aE (fQ DM) (aE (fQ Dp) (aE (fQ M7) (aE (fQ Dm) (aE (zh El) (aE (fQ Bt) fB)))))
theorem W6 {u v w:V3} {n m k:Nat}:bF T HQ [17] 60 f103 (aF f103) ⟨aS 0 [vA u n,vA v m,vA w k],[],0⟩=
  some (ag.aj [(0:Nat)<1,(0:Nat)<1,m<=m,m<=m,n<=n,n<=n,m<2^38,n<2^38,(0:Nat)<1,(0:Nat)<1,k<=k,k<=k,n<=n,n<=n,k<2^38,n<2^38,m+n+1<=m+n+1,m+n+1<=m+n+1,k+n+1<=k+n+1,k+n+1<=k+n+1,m+n+1<2^38,k+n+1<2^38,(0:Nat)<1] (ag.aj [(0:Nat)<1,m+n+1+(k+n+1)+(m+n+1+(k+n+1))+1<=m+n+1+(k+n+1)+(m+n+1+(k+n+1))+1,m+n+1+(k+n+1)+(m+n+1+(k+n+1))+1<=m+n+1+(k+n+1)+(m+n+1+(k+n+1))+1,m+n+1+(k+n+1)+(m+n+1+(k+n+1))+1<2^38] (ag.fork (dY {x:=(v.y-u.y)*(w.z-u.z)-(v.z-u.z)*(w.y-u.y),y:=(v.z-u.z)*(w.x-u.x)-(v.x-u.x)*(w.z-u.z),z:=(v.x-u.x)*(w.y-u.y)-(v.y-u.y)*(w.x-u.x)} v0) (ag.aj [(0:Nat)<1] (ag.aj [(0:Nat)<1] (ag.leaf aq.ret [agg [agg [rat 0 1,rat 0 1,rat 0 1],rat 0 1],int .i64 (9:Int)]))) (ag.aj [(0:Nat)<1,(0:Nat)<1,(0:Nat)<1,m+n+1+(k+n+1)+(m+n+1+(k+n+1))+1<=m+n+1+(k+n+1)+(m+n+1+(k+n+1))+1,m+n+1+(k+n+1)+(m+n+1+(k+n+1))+1<=m+n+1+(k+n+1)+(m+n+1+(k+n+1))+1,n<=n,n<=n,m+n+1+(k+n+1)+(m+n+1+(k+n+1))+1<2^38,n<2^38,(0:Nat)<1] (ag.aj [(0:Nat)<1] (ag.leaf aq.ret [agg [agg [rat ((v.y-u.y)*(w.z-u.z)-(v.z-u.z)*(w.y-u.y)) (m+n+1+(k+n+1)+(m+n+1+(k+n+1))+1),rat ((v.z-u.z)*(w.x-u.x)-(v.x-u.x)*(w.z-u.z)) (m+n+1+(k+n+1)+(m+n+1+(k+n+1))+1),rat ((v.x-u.x)*(w.y-u.y)-(v.y-u.y)*(w.x-u.x)) (m+n+1+(k+n+1)+(m+n+1+(k+n+1))+1)],rat (dot {x:=(v.y-u.y)*(w.z-u.z)-(v.z-u.z)*(w.y-u.y),y:=(v.z-u.z)*(w.x-u.x)-(v.x-u.x)*(w.z-u.z),z:=(v.x-u.x)*(w.y-u.y)-(v.y-u.y)*(w.x-u.x)} {x:=u.x,y:=u.y,z:=u.z}) ((3:Nat)*(m+n+1+(k+n+1)+(m+n+1+(k+n+1))+1+n)+4)],int .i64 (0:Int)])))))):=ah
theorem DQ {x y z:Rat} {a b c k:Nat} {v:V3} (h1:x=v.x) (h2:y=v.y) (h3:z=v.z) (ka:a<=k) (kb:b<=k) (kc:c<=k):bp (.agg [.rat x a,.rat y b,.rat z c]) (vA v k):=
 cj ⟨bC h1 ka,bC h2 kb,bC h3 kc,trivial⟩
theorem lX {u v:V3}:dY u v=true↔u=v:=by
 unfold dY
 simp only[Bool.and_eq_true,bz]
 exact⟨fun h=>V3.ext h.1 h.2.1 h.2.2,fun h=>by subst h;exact⟨rfl,rfl,rfl⟩⟩
def n3 {α β γ:Type} (a:α×Nat) (b:β×Nat) (c:γ×Nat):List Prop:=[a.2<2^34,b.2<2^34,c.2<2^34]
def uM (u v w:V3):V3:=wI (bV v u) (bV w u)
def Aj (u v w:V3):Pl:=⟨uM u v w,dot (uM u v w) u⟩
def uk (u v w:V3):Int:=if dY (uM u v w) v0=true then 9 else 0
def Gx (a b c:V3×Nat):AV:=.tuple [aJ (Aj a.1 b.1 c.1) (3*(2*(b.2+c.2+2*a.2+2)+1+a.2)+4),.int .i64 (uk a.1 b.1 c.1)]
theorem aeX (a b c:V3×Nat) (K:Nat) (h:au (n3 a b c)):aN P 103 K [kV.make a,kV.make b,kV.make c] [] (aH (Gx a b c) []):=by
 obtain⟨u,n⟩:=a
 obtain⟨v,m⟩:=b
 obtain⟨w,k⟩:=c
 obtain⟨h1,h2,h3⟩:n<2^34/\m<2^34/\k<2^34:=h
 refine bM hT ahi hm RN rfl aW rfl 60 W6 (fun _=>?_) K []
 simp only[ag.all,au,Nat.max_self]
 (repeat' with_reducible first|refine And.intro ?_ ?_|intro _)
 all_goals first|omega|decide|skip
 ·rename_i hz
  have hn:uM u v w=v0:=lX.1 hz
  have he:Aj u v w=⟨v0,0⟩:=by unfold Aj;rw[hn];congr 1;show(0:Rat)+0*u.x+0*u.y+0*u.z=0;grind
  refine⟨?_,bW ?_,trivial⟩
  ·show bp _ (aJ (Aj u v w) _)
   rw[he]
   exact ahR (u:=⟨v0,0⟩) (n:=1) rfl (by simp only;omega)
  ·show(9:Int)=uk u v w
   unfold uk
   rw[if_pos (lX.2 hn)]
 ·rename_i hz
  refine⟨cj ⟨DQ rfl rfl rfl (by simp only;omega) (by simp only;omega) (by simp only;omega),bC rfl (by simp only;omega),trivial⟩,bW ?_,trivial⟩
  show(0:Int)=uk u v w
  unfold uk
  rw[if_neg (by rw[Bool.not_eq_true];exact hz)]
end Go.Am.B
