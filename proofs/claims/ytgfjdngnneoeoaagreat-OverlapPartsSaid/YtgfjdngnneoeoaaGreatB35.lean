/- vector: Cross, Dot, each, Same, Zero, Add, Sub, Scale. -/
import Derived.Test.YtgfjdngnneoeoaaGreatB34
set_option linter.unusedVariables false
namespace Go.Am.B
open Go Go.Am.N AV Proofs.Tryz IntKind
theorem RR:aX 75 f75:=aM func75
theorem aaj:aX 76 f76:=aM func76
theorem B3:aX 127 f127:=aM func127
theorem aeG:aX 72 f72:=aM func72
theorem agx {u v:V3} {n m:Nat}:bF T eV [] 60 f75 (aF f75) ⟨aS 0 [vA u n,vA v m],[],0⟩=
  some (ag.aj [(3:Int)≠(0:Int),(3:Int)≠(0:Int)] (ag.aj [(0:Int)<=(i64.wrap ((0:Int)+1)).tmod (3:Int)/\(i64.wrap ((0:Int)+1)).tmod (3:Int)<(↑(3:Nat):Int),(0:Nat)<1,(0:Int)<=(i64.wrap ((0:Int)+2)).tmod (3:Int)/\(i64.wrap ((0:Int)+2)).tmod (3:Int)<(↑(3:Nat):Int),(0:Nat)<1,n<2^42,m<2^42,(0:Int)<=(i64.wrap ((0:Int)+2)).tmod (3:Int)/\(i64.wrap ((0:Int)+2)).tmod (3:Int)<(↑(3:Nat):Int),(0:Nat)<1,(0:Int)<=(i64.wrap ((0:Int)+1)).tmod (3:Int)/\(i64.wrap ((0:Int)+1)).tmod (3:Int)<(↑(3:Nat):Int),(0:Nat)<1,n<2^42,m<2^42,n+m<2^42,n+m<2^42,(0:Int)<=0/\(0:Int)<(↑(3:Nat):Int),(0:Nat)<1] (ag.aj [(3:Int)≠(0:Int),(3:Int)≠(0:Int)] (ag.aj [(0:Int)<=(i64.wrap (i64.wrap ((0:Int)+1)+1)).tmod (3:Int)/\(i64.wrap (i64.wrap ((0:Int)+1)+1)).tmod (3:Int)<(↑(3:Nat):Int),(0:Nat)<1,(0:Int)<=(i64.wrap (i64.wrap ((0:Int)+1)+2)).tmod (3:Int)/\(i64.wrap (i64.wrap ((0:Int)+1)+2)).tmod (3:Int)<(↑(3:Nat):Int),(0:Nat)<1,n<2^42,m<2^42,(0:Int)<=(i64.wrap (i64.wrap ((0:Int)+1)+2)).tmod (3:Int)/\(i64.wrap (i64.wrap ((0:Int)+1)+2)).tmod (3:Int)<(↑(3:Nat):Int),(0:Nat)<1,(0:Int)<=(i64.wrap (i64.wrap ((0:Int)+1)+1)).tmod (3:Int)/\(i64.wrap (i64.wrap ((0:Int)+1)+1)).tmod (3:Int)<(↑(3:Nat):Int),(0:Nat)<1,n<2^42,m<2^42,n+m<2^42,n+m<2^42,(0:Int)<=i64.wrap ((0:Int)+1)/\i64.wrap ((0:Int)+1)<(↑(3:Nat):Int),(0:Nat)<1] (ag.aj [(3:Int)≠(0:Int),(3:Int)≠(0:Int)] (ag.aj [(0:Int)<=(i64.wrap (i64.wrap (i64.wrap ((0:Int)+1)+1)+1)).tmod (3:Int)/\(i64.wrap (i64.wrap (i64.wrap ((0:Int)+1)+1)+1)).tmod (3:Int)<(↑(3:Nat):Int),(0:Nat)<1,(0:Int)<=(i64.wrap (i64.wrap (i64.wrap ((0:Int)+1)+1)+2)).tmod (3:Int)/\(i64.wrap (i64.wrap (i64.wrap ((0:Int)+1)+1)+2)).tmod (3:Int)<(↑(3:Nat):Int),(0:Nat)<1,n<2^42,m<2^42,(0:Int)<=(i64.wrap (i64.wrap (i64.wrap ((0:Int)+1)+1)+2)).tmod (3:Int)/\(i64.wrap (i64.wrap (i64.wrap ((0:Int)+1)+1)+2)).tmod (3:Int)<(↑(3:Nat):Int),(0:Nat)<1,(0:Int)<=(i64.wrap (i64.wrap (i64.wrap ((0:Int)+1)+1)+1)).tmod (3:Int)/\(i64.wrap (i64.wrap (i64.wrap ((0:Int)+1)+1)+1)).tmod (3:Int)<(↑(3:Nat):Int),(0:Nat)<1,n<2^42,m<2^42,n+m<2^42,n+m<2^42,(0:Int)<=i64.wrap (i64.wrap ((0:Int)+1)+1)/\i64.wrap (i64.wrap ((0:Int)+1)+1)<(↑(3:Nat):Int),(0:Nat)<1] (ag.aj [(0:Nat)<1,(0:Nat)<1] (ag.aj [(0:Nat)<1] (ag.leaf aq.ret [agg [rat (u.y*v.z-u.z*v.y) (n+m+(n+m)+1),rat (u.z*v.x-u.x*v.z) (n+m+(n+m)+1),rat (u.x*v.y-u.y*v.x) (n+m+(n+m)+1)]]))))))))):=ah
theorem YZ {u v:V3} {n m:Nat}:bF T eV [] 60 f76 (aF f76) ⟨aS 0 [vA u n,vA v m],[],0⟩=
  some (ag.aj [(0:Nat)<1,(0:Int)<=0/\(0:Int)<(↑(3:Nat):Int),(0:Nat)<1,(0:Int)<=0/\(0:Int)<(↑(3:Nat):Int),(0:Nat)<1,n<2^42,m<2^42,(1:Nat)<2^42,n+m<2^42,(0:Nat)<1] (ag.aj [(0:Nat)<1,(0:Int)<=i64.wrap ((0:Int)+1)/\i64.wrap ((0:Int)+1)<(↑(3:Nat):Int),(0:Nat)<1,(0:Int)<=i64.wrap ((0:Int)+1)/\i64.wrap ((0:Int)+1)<(↑(3:Nat):Int),(0:Nat)<1,n<2^42,m<2^42,(1:Nat)+(n+m)+1<2^42,n+m<2^42,(0:Nat)<1] (ag.aj [(0:Nat)<1,(0:Int)<=i64.wrap (i64.wrap ((0:Int)+1)+1)/\i64.wrap (i64.wrap ((0:Int)+1)+1)<(↑(3:Nat):Int),(0:Nat)<1,(0:Int)<=i64.wrap (i64.wrap ((0:Int)+1)+1)/\i64.wrap (i64.wrap ((0:Int)+1)+1)<(↑(3:Nat):Int),(0:Nat)<1,n<2^42,m<2^42,(1:Nat)+(n+m)+1+(n+m)+1<2^42,n+m<2^42,(0:Nat)<1] (ag.aj [(0:Nat)<1,(0:Nat)<1] (ag.aj [(0:Nat)<1] (ag.leaf aq.ret [rat ((0:Rat)+u.x*v.x+u.y*v.y+u.z*v.z) ((1:Nat)+(n+m)+1+(n+m)+1+(n+m)+1)])))))):=ah
theorem St {u v:V3} {n m:Nat}:bF T eV [] 60 f127 (aF f127) ⟨aS 0 [vA u n,vA v m,.func 91 []],[],0⟩=
  some (ag.aj [(0:Int)<=0/\(0:Int)<(↑(3:Nat):Int),(0:Nat)<1,(0:Int)<=0/\(0:Int)<(↑(3:Nat):Int),(0:Nat)<1,n<2^42,m<2^42,(0:Int)<=0/\(0:Int)<(↑(3:Nat):Int),(0:Nat)<1] (ag.aj [(0:Int)<=i64.wrap ((0:Int)+1)/\i64.wrap ((0:Int)+1)<(↑(3:Nat):Int),(0:Nat)<1,(0:Int)<=i64.wrap ((0:Int)+1)/\i64.wrap ((0:Int)+1)<(↑(3:Nat):Int),(0:Nat)<1,n<2^42,m<2^42,(0:Int)<=i64.wrap ((0:Int)+1)/\i64.wrap ((0:Int)+1)<(↑(3:Nat):Int),(0:Nat)<1] (ag.aj [(0:Int)<=i64.wrap (i64.wrap ((0:Int)+1)+1)/\i64.wrap (i64.wrap ((0:Int)+1)+1)<(↑(3:Nat):Int),(0:Nat)<1,(0:Int)<=i64.wrap (i64.wrap ((0:Int)+1)+1)/\i64.wrap (i64.wrap ((0:Int)+1)+1)<(↑(3:Nat):Int),(0:Nat)<1,n<2^42,m<2^42,(0:Int)<=i64.wrap (i64.wrap ((0:Int)+1)+1)/\i64.wrap (i64.wrap ((0:Int)+1)+1)<(↑(3:Nat):Int),(0:Nat)<1] (ag.aj [(0:Nat)<1,(0:Nat)<1] (ag.aj [(0:Nat)<1] (ag.leaf aq.ret [agg [rat (u.x+v.x) (n+m+1),rat (u.y+v.y) (n+m+1),rat (u.z+v.z) (n+m+1)]])))))):=ah
theorem S6 {u v:V3} {n m:Nat}:bF T eV [] 60 f127 (aF f127) ⟨aS 0 [vA u n,vA v m,.func 38 []],[],0⟩=
  some (ag.aj [(0:Int)<=0/\(0:Int)<(↑(3:Nat):Int),(0:Nat)<1,(0:Int)<=0/\(0:Int)<(↑(3:Nat):Int),(0:Nat)<1,n<2^42,m<2^42,(0:Int)<=0/\(0:Int)<(↑(3:Nat):Int),(0:Nat)<1] (ag.aj [(0:Int)<=i64.wrap ((0:Int)+1)/\i64.wrap ((0:Int)+1)<(↑(3:Nat):Int),(0:Nat)<1,(0:Int)<=i64.wrap ((0:Int)+1)/\i64.wrap ((0:Int)+1)<(↑(3:Nat):Int),(0:Nat)<1,n<2^42,m<2^42,(0:Int)<=i64.wrap ((0:Int)+1)/\i64.wrap ((0:Int)+1)<(↑(3:Nat):Int),(0:Nat)<1] (ag.aj [(0:Int)<=i64.wrap (i64.wrap ((0:Int)+1)+1)/\i64.wrap (i64.wrap ((0:Int)+1)+1)<(↑(3:Nat):Int),(0:Nat)<1,(0:Int)<=i64.wrap (i64.wrap ((0:Int)+1)+1)/\i64.wrap (i64.wrap ((0:Int)+1)+1)<(↑(3:Nat):Int),(0:Nat)<1,n<2^42,m<2^42,(0:Int)<=i64.wrap (i64.wrap ((0:Int)+1)+1)/\i64.wrap (i64.wrap ((0:Int)+1)+1)<(↑(3:Nat):Int),(0:Nat)<1] (ag.aj [(0:Nat)<1,(0:Nat)<1] (ag.aj [(0:Nat)<1] (ag.leaf aq.ret [agg [rat (u.x-v.x) (n+m+1),rat (u.y-v.y) (n+m+1),rat (u.z-v.z) (n+m+1)]])))))):=ah
theorem agh {u v:V3} {n m:Nat}:bF T eV [] 60 f127 (aF f127) ⟨aS 0 [vA u n,vA v m,.func 92 []],[],0⟩=
  some (ag.aj [(0:Int)<=0/\(0:Int)<(↑(3:Nat):Int),(0:Nat)<1,(0:Int)<=0/\(0:Int)<(↑(3:Nat):Int),(0:Nat)<1,n<2^42,m<2^42,(0:Int)<=0/\(0:Int)<(↑(3:Nat):Int),(0:Nat)<1] (ag.aj [(0:Int)<=i64.wrap ((0:Int)+1)/\i64.wrap ((0:Int)+1)<(↑(3:Nat):Int),(0:Nat)<1,(0:Int)<=i64.wrap ((0:Int)+1)/\i64.wrap ((0:Int)+1)<(↑(3:Nat):Int),(0:Nat)<1,n<2^42,m<2^42,(0:Int)<=i64.wrap ((0:Int)+1)/\i64.wrap ((0:Int)+1)<(↑(3:Nat):Int),(0:Nat)<1] (ag.aj [(0:Int)<=i64.wrap (i64.wrap ((0:Int)+1)+1)/\i64.wrap (i64.wrap ((0:Int)+1)+1)<(↑(3:Nat):Int),(0:Nat)<1,(0:Int)<=i64.wrap (i64.wrap ((0:Int)+1)+1)/\i64.wrap (i64.wrap ((0:Int)+1)+1)<(↑(3:Nat):Int),(0:Nat)<1,n<2^42,m<2^42,(0:Int)<=i64.wrap (i64.wrap ((0:Int)+1)+1)/\i64.wrap (i64.wrap ((0:Int)+1)+1)<(↑(3:Nat):Int),(0:Nat)<1] (ag.aj [(0:Nat)<1,(0:Nat)<1] (ag.aj [(0:Nat)<1] (ag.leaf aq.ret [agg [rat (u.x*v.x) (n+m),rat (u.y*v.y) (n+m),rat (u.z*v.z) (n+m)]])))))):=ah
theorem T6 {u v:V3} {n m:Nat}:bF T eV [16] 60 f72 (aF f72) ⟨aS 0 [vA u n,vA v m],[],0⟩=
  some (ag.aj [(0:Int)<=0/\(0:Int)<(↑(3:Nat):Int),(0:Nat)<1,(0:Int)<=0/\(0:Int)<(↑(3:Nat):Int),(0:Nat)<1,n<2^42,m<2^42] (ag.fork (!decide (u.x=v.x)) (ag.leaf aq.ret [AV.bool false]) (ag.aj [(0:Int)<=i64.wrap ((0:Int)+1)/\i64.wrap ((0:Int)+1)<(↑(3:Nat):Int),(0:Nat)<1,(0:Int)<=i64.wrap ((0:Int)+1)/\i64.wrap ((0:Int)+1)<(↑(3:Nat):Int),(0:Nat)<1,n<2^42,m<2^42] (ag.fork (!decide (u.y=v.y)) (ag.leaf aq.ret [AV.bool false]) (ag.aj [(0:Int)<=i64.wrap (i64.wrap ((0:Int)+1)+1)/\i64.wrap (i64.wrap ((0:Int)+1)+1)<(↑(3:Nat):Int),(0:Nat)<1,(0:Int)<=i64.wrap (i64.wrap ((0:Int)+1)+1)/\i64.wrap (i64.wrap ((0:Int)+1)+1)<(↑(3:Nat):Int),(0:Nat)<1,n<2^42,m<2^42] (ag.fork (!decide (u.z=v.z)) (ag.leaf aq.ret [AV.bool false]) (ag.leaf aq.ret [AV.bool true]))))))):=ah
def wI (u v:V3):V3:=⟨u.y*v.z-u.z*v.y,u.z*v.x-u.x*v.z,u.x*v.y-u.y*v.x⟩
def dot (u v:V3):Rat:=0+u.x*v.x+u.y*v.y+u.z*v.z
def iU (u v:V3):V3:=⟨u.x+v.x,u.y+v.y,u.z+v.z⟩
def bV (u v:V3):V3:=⟨u.x-v.x,u.y-v.y,u.z-v.z⟩
def aeV (u v:V3):V3:=⟨u.x*v.x,u.y*v.y,u.z*v.z⟩
def fZ (q:Rat) (v:V3):V3:=⟨q*v.x,q*v.y,q*v.z⟩
def dY (u v:V3):Bool:=decide (u.x=v.x)&&(decide (u.y=v.y)&&decide (u.z=v.z))
abbrev v0:V3:=⟨0,0,0⟩
def gd {α β:Type} (a:α×Nat) (b:β×Nat):List Prop:=[a.2<2^38,b.2<2^38]
def sj (a b:V3×Nat):AV:=vA (wI a.1 b.1) (a.2+b.2+(a.2+b.2)+1)
def uv (a b:V3×Nat):AV:=rA (dot a.1 b.1) (3*(a.2+b.2)+4)
def qe (a b:V3×Nat):AV:=.bool (dY a.1 b.1)
def qN (a b:V3×Nat):AV:=vA (iU a.1 b.1) (a.2+b.2+1)
def pB (a b:V3×Nat):AV:=vA (bV a.1 b.1) (a.2+b.2+1)
def JI (a b:V3×Nat):AV:=vA (aeV a.1 b.1) (a.2+b.2)
def I8 (a:Rat×Nat) (b:V3×Nat):AV:=vA (fZ a.1 b.1) (a.2+b.2)
def yo (a:V3×Nat):AV:=.bool (dY a.1 v0)
theorem DM (a b:V3×Nat) (K:Nat) (h:au (gd a b)):aN P 75 K [kV.make a,kV.make b] [] (aH (sj a b) []):=by
 obtain⟨u,n⟩:=a
 obtain⟨v,m⟩:=b
 obtain⟨h1,h2⟩:n<2^38/\m<2^38:=h
 refine bM hT fB hm RR rfl aW rfl 60 agx (fun _=>?_) K []
 simp only[ag.all,au]
 (repeat' with_reducible refine And.intro ?_ ?_)
 all_goals first|omega|decide|exact bp.refl _
theorem Dp (a b:V3×Nat) (K:Nat) (h:au (gd a b)):aN P 76 K [kV.make a,kV.make b] [] (aH (uv a b) []):=by
 obtain⟨u,n⟩:=a
 obtain⟨v,m⟩:=b
 obtain⟨h1,h2⟩:n<2^38/\m<2^38:=h
 refine bM hT fB hm aaj rfl aW rfl 60 YZ (fun _=>?_) K []
 simp only[ag.all,au]
 (repeat' with_reducible refine And.intro ?_ ?_)
 all_goals first|omega|decide|exact bC rfl (by simp only;omega)
theorem Bt (a b:V3×Nat) (K:Nat) (h:au (gd a b)):aN P 72 K [kV.make a,kV.make b] [] (aH (qe a b) []):=by
 obtain⟨u,n⟩:=a
 obtain⟨v,m⟩:=b
 obtain⟨h1,h2⟩:n<2^38/\m<2^38:=h
 refine bM hT fB hm aeG rfl aW rfl 60 T6 (fun _=>?_) K []
 simp only[ag.all,au,Bool.not_eq_true',Bool.not_eq_false',bz,bG]
 (repeat' with_reducible first|refine And.intro ?_ ?_|intro _)
 all_goals first | omega | decide | exact gZ (by simp [dY, *])
theorem Cf (a b:V3×Nat) (K:Nat) (h:au (gd a b)):aN P 127 K [kV.make a,kV.make b,.func 91 []] [] (aH (qN a b) [])/\aN P 127 K [kV.make a,kV.make b,.func 38 []] [] (aH (pB a b) [])/\aN P 127 K [kV.make a,kV.make b,.func 92 []] [] (aH (JI a b) []):=by
 obtain⟨u,n⟩:=a
 obtain⟨v,m⟩:=b
 obtain⟨h1,h2⟩:n<2^38/\m<2^38:=h
 refine⟨?_,?_,?_⟩
 ·refine bM hT fB hm B3 rfl aW rfl 60 St (fun _=>?_) K []
  simp only[ag.all,au]
  (repeat' with_reducible refine And.intro ?_ ?_)
  all_goals first|omega|decide|exact bp.refl _
 ·refine bM hT fB hm B3 rfl aW rfl 60 S6 (fun _=>?_) K []
  simp only[ag.all,au]
  (repeat' with_reducible refine And.intro ?_ ?_)
  all_goals first|omega|decide|exact bp.refl _
 ·refine bM hT fB hm B3 rfl aW rfl 60 agh (fun _=>?_) K []
  simp only[ag.all,au]
  (repeat' with_reducible refine And.intro ?_ ?_)
  all_goals first|omega|decide|exact bp.refl _
def Nx:Spec:=bX fun l=>match l with
 |[x,y,.func f []]=>match kV.read x,kV.read y with
  |some (a,p),some (b,q)=>bif f==91 then some (aH (qN a b) (p++(q++gd a b)))else bif f==38 then some (aH (pB a b) (p++(q++gd a b)))else bif f==92 then some (aH (JI a b) (p++(q++gd a b)))else none
  |_,_=>none
 |_=>none
def zj:aV:=[(127,Nx),(72,fL kV kV qe gd)]
theorem aao:bf P Nx 127:=by
 refine cM fun K args r hk hs _=>?_
 split at hs
 ·rename_i x y f
  split at hs
  ·rename_i a p b q ha hb
   have hle:au (p++(q++gd a b))->au (gd a b)/\dA [x,y,.func f []] [kV.make a,kV.make b,.func f []]:=fun hn=>⟨(dN.1 (dN.1 hn).2).2,kV.ok ha (dN.1 hn).1,kV.ok hb (dN.1 (dN.1 hn).2).1,.refl _,trivial⟩
   simp only[cond_eq_ite,beq_iff_eq]at hs
   split at hs
   ·rename_i hf
    subst hf
    simp only[ax]at hs
    subst hs
    exact fun hn=>eR (Cf a b K (hle hn).1).1 hk (hle hn).2 [] trivial
   ·split at hs
    ·rename_i hf
     subst hf
     simp only[ax]at hs
     subst hs
     exact fun hn=>eR (Cf a b K (hle hn).1).2.1 hk (hle hn).2 [] trivial
    ·split at hs
     ·rename_i hf
      subst hf
      simp only[ax]at hs
      subst hs
      exact fun hn=>eR (Cf a b K (hle hn).1).2.2 hk (hle hn).2 [] trivial
     ·simp at hs
  ·simp at hs
 ·simp at hs
theorem EC:bg P zj:=aE aao (aE (fQ Bt) bD)
theorem R7:aX 166 f166:=aM func166
theorem U8:aX 73 f73:=aM func73
theorem acs:aX 74 f74:=aM func74
theorem QB {u v:V3} {n m:Nat}:bF T zj [] 60 f166 (aF f166) ⟨aS 0 [vA u n,vA v m],[],0⟩=
  some (ag.aj [(0:Nat)<1,(0:Nat)<1,n<=n,n<=n,m<=m,m<=m,n<2^38,m<2^38,(0:Nat)<1] (ag.aj [(0:Nat)<1] (ag.leaf aq.ret [agg [rat (u.x+v.x) (n+m+1),rat (u.y+v.y) (n+m+1),rat (u.z+v.z) (n+m+1)]]))):=ah
theorem abM {u v:V3} {n m:Nat}:bF T zj [] 60 f73 (aF f73) ⟨aS 0 [vA u n,vA v m],[],0⟩=
  some (ag.aj [(0:Nat)<1,(0:Nat)<1,n<=n,n<=n,m<=m,m<=m,n<2^38,m<2^38,(0:Nat)<1] (ag.aj [(0:Nat)<1] (ag.leaf aq.ret [agg [rat (u.x-v.x) (n+m+1),rat (u.y-v.y) (n+m+1),rat (u.z-v.z) (n+m+1)]]))):=ah
theorem ZO {u:V3} {n:Nat}:bF T zj [] 60 f74 (aF f74) ⟨aS 0 [vA u n],[],0⟩=
  some (ag.aj [(0:Nat)<1,n<=n,n<=n,(1:Nat)<=1,(1:Nat)<=1,n<2^38,(1:Nat)<2^38] (ag.leaf aq.ret [AV.bool (dY {x:=u.x,y:=u.y,z:=u.z} {x:=0,y:=0,z:=0})])):=ah
theorem M7 (a b:V3×Nat) (K:Nat) (h:au (gd a b)):aN P 166 K [kV.make a,kV.make b] [] (aH (qN a b) []):=by
 obtain⟨u,n⟩:=a
 obtain⟨v,m⟩:=b
 obtain⟨h1,h2⟩:n<2^38/\m<2^38:=h
 refine bM hT EC hm R7 rfl aW rfl 60 QB (fun _=>?_) K []
 simp only[ag.all,au,Nat.max_self]
 (repeat' with_reducible refine And.intro ?_ ?_)
 all_goals first|omega|decide|exact bp.refl _
theorem Dm (a b:V3×Nat) (K:Nat) (h:au (gd a b)):aN P 73 K [kV.make a,kV.make b] [] (aH (pB a b) []):=by
 obtain⟨u,n⟩:=a
 obtain⟨v,m⟩:=b
 obtain⟨h1,h2⟩:n<2^38/\m<2^38:=h
 refine bM hT EC hm U8 rfl aW rfl 60 abM (fun _=>?_) K []
 simp only[ag.all,au,Nat.max_self]
 (repeat' with_reducible refine And.intro ?_ ?_)
 all_goals first|omega|decide|exact bp.refl _
theorem El (a:V3×Nat) (K:Nat) (h:au [a.2<2^38]):aN P 74 K [kV.make a] [] (aH (yo a) []):=by
 obtain⟨u,n⟩:=a
 have h1:n<2^38:=h
 refine bM hT EC hm acs rfl aW rfl 60 ZO (fun _=>?_) K []
 simp only[ag.all,au,Nat.max_self]
 (repeat' with_reducible refine And.intro ?_ ?_)
 all_goals first|omega|decide|exact bp.refl _
end Go.Am.B
