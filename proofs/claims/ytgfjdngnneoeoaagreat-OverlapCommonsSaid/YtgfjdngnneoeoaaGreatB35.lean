/- vector: Cross, Dot, each, Same, Zero, Add, Sub, Scale. -/
import Derived.Test.YtgfjdngnneoeoaaGreatB34
set_option linter.unusedVariables false
namespace Go.Am.B
open Go Go.Am.N AV Proofs.Tryz IntKind
theorem afE:aW 75 f75:=aN func75
theorem Xp:aW 76 f76:=aN func76
theorem DF:aW 127 f127:=aN func127
theorem Zw:aW 72 f72:=aN func72
theorem aeE {u v:V3} {n m:Nat}:bD T eO [] 60 f75 (aF f75) ⟨aT 0 [vA u n,vA v m],[],0⟩=
  some (ag.aj [(3:Int)≠(0:Int),(3:Int)≠(0:Int)] (ag.aj [(0:Int)<=(i64.wrap ((0:Int)+1)).tmod (3:Int)/\(i64.wrap ((0:Int)+1)).tmod (3:Int)<(↑(3:Nat):Int),(0:Nat)<1,(0:Int)<=(i64.wrap ((0:Int)+2)).tmod (3:Int)/\(i64.wrap ((0:Int)+2)).tmod (3:Int)<(↑(3:Nat):Int),(0:Nat)<1,n<2^42,m<2^42,(0:Int)<=(i64.wrap ((0:Int)+2)).tmod (3:Int)/\(i64.wrap ((0:Int)+2)).tmod (3:Int)<(↑(3:Nat):Int),(0:Nat)<1,(0:Int)<=(i64.wrap ((0:Int)+1)).tmod (3:Int)/\(i64.wrap ((0:Int)+1)).tmod (3:Int)<(↑(3:Nat):Int),(0:Nat)<1,n<2^42,m<2^42,n+m<2^42,n+m<2^42,(0:Int)<=0/\(0:Int)<(↑(3:Nat):Int),(0:Nat)<1] (ag.aj [(3:Int)≠(0:Int),(3:Int)≠(0:Int)] (ag.aj [(0:Int)<=(i64.wrap (i64.wrap ((0:Int)+1)+1)).tmod (3:Int)/\(i64.wrap (i64.wrap ((0:Int)+1)+1)).tmod (3:Int)<(↑(3:Nat):Int),(0:Nat)<1,(0:Int)<=(i64.wrap (i64.wrap ((0:Int)+1)+2)).tmod (3:Int)/\(i64.wrap (i64.wrap ((0:Int)+1)+2)).tmod (3:Int)<(↑(3:Nat):Int),(0:Nat)<1,n<2^42,m<2^42,(0:Int)<=(i64.wrap (i64.wrap ((0:Int)+1)+2)).tmod (3:Int)/\(i64.wrap (i64.wrap ((0:Int)+1)+2)).tmod (3:Int)<(↑(3:Nat):Int),(0:Nat)<1,(0:Int)<=(i64.wrap (i64.wrap ((0:Int)+1)+1)).tmod (3:Int)/\(i64.wrap (i64.wrap ((0:Int)+1)+1)).tmod (3:Int)<(↑(3:Nat):Int),(0:Nat)<1,n<2^42,m<2^42,n+m<2^42,n+m<2^42,(0:Int)<=i64.wrap ((0:Int)+1)/\i64.wrap ((0:Int)+1)<(↑(3:Nat):Int),(0:Nat)<1] (ag.aj [(3:Int)≠(0:Int),(3:Int)≠(0:Int)] (ag.aj [(0:Int)<=(i64.wrap (i64.wrap (i64.wrap ((0:Int)+1)+1)+1)).tmod (3:Int)/\(i64.wrap (i64.wrap (i64.wrap ((0:Int)+1)+1)+1)).tmod (3:Int)<(↑(3:Nat):Int),(0:Nat)<1,(0:Int)<=(i64.wrap (i64.wrap (i64.wrap ((0:Int)+1)+1)+2)).tmod (3:Int)/\(i64.wrap (i64.wrap (i64.wrap ((0:Int)+1)+1)+2)).tmod (3:Int)<(↑(3:Nat):Int),(0:Nat)<1,n<2^42,m<2^42,(0:Int)<=(i64.wrap (i64.wrap (i64.wrap ((0:Int)+1)+1)+2)).tmod (3:Int)/\(i64.wrap (i64.wrap (i64.wrap ((0:Int)+1)+1)+2)).tmod (3:Int)<(↑(3:Nat):Int),(0:Nat)<1,(0:Int)<=(i64.wrap (i64.wrap (i64.wrap ((0:Int)+1)+1)+1)).tmod (3:Int)/\(i64.wrap (i64.wrap (i64.wrap ((0:Int)+1)+1)+1)).tmod (3:Int)<(↑(3:Nat):Int),(0:Nat)<1,n<2^42,m<2^42,n+m<2^42,n+m<2^42,(0:Int)<=i64.wrap (i64.wrap ((0:Int)+1)+1)/\i64.wrap (i64.wrap ((0:Int)+1)+1)<(↑(3:Nat):Int),(0:Nat)<1] (ag.aj [(0:Nat)<1,(0:Nat)<1] (ag.aj [(0:Nat)<1] (ag.leaf ak.ret [agg [rat (u.y*v.z-u.z*v.y) (n+m+(n+m)+1),rat (u.z*v.x-u.x*v.z) (n+m+(n+m)+1),rat (u.x*v.y-u.y*v.x) (n+m+(n+m)+1)]]))))))))):=ah
theorem Qs {u v:V3} {n m:Nat}:bD T eO [] 60 f76 (aF f76) ⟨aT 0 [vA u n,vA v m],[],0⟩=
  some (ag.aj [(0:Nat)<1,(0:Int)<=0/\(0:Int)<(↑(3:Nat):Int),(0:Nat)<1,(0:Int)<=0/\(0:Int)<(↑(3:Nat):Int),(0:Nat)<1,n<2^42,m<2^42,(1:Nat)<2^42,n+m<2^42,(0:Nat)<1] (ag.aj [(0:Nat)<1,(0:Int)<=i64.wrap ((0:Int)+1)/\i64.wrap ((0:Int)+1)<(↑(3:Nat):Int),(0:Nat)<1,(0:Int)<=i64.wrap ((0:Int)+1)/\i64.wrap ((0:Int)+1)<(↑(3:Nat):Int),(0:Nat)<1,n<2^42,m<2^42,(1:Nat)+(n+m)+1<2^42,n+m<2^42,(0:Nat)<1] (ag.aj [(0:Nat)<1,(0:Int)<=i64.wrap (i64.wrap ((0:Int)+1)+1)/\i64.wrap (i64.wrap ((0:Int)+1)+1)<(↑(3:Nat):Int),(0:Nat)<1,(0:Int)<=i64.wrap (i64.wrap ((0:Int)+1)+1)/\i64.wrap (i64.wrap ((0:Int)+1)+1)<(↑(3:Nat):Int),(0:Nat)<1,n<2^42,m<2^42,(1:Nat)+(n+m)+1+(n+m)+1<2^42,n+m<2^42,(0:Nat)<1] (ag.aj [(0:Nat)<1,(0:Nat)<1] (ag.aj [(0:Nat)<1] (ag.leaf ak.ret [rat ((0:Rat)+u.x*v.x+u.y*v.y+u.z*v.z) ((1:Nat)+(n+m)+1+(n+m)+1+(n+m)+1)])))))):=ah
theorem Yl {u v:V3} {n m:Nat}:bD T eO [] 60 f127 (aF f127) ⟨aT 0 [vA u n,vA v m,.func 91 []],[],0⟩=
  some (ag.aj [(0:Int)<=0/\(0:Int)<(↑(3:Nat):Int),(0:Nat)<1,(0:Int)<=0/\(0:Int)<(↑(3:Nat):Int),(0:Nat)<1,n<2^42,m<2^42,(0:Int)<=0/\(0:Int)<(↑(3:Nat):Int),(0:Nat)<1] (ag.aj [(0:Int)<=i64.wrap ((0:Int)+1)/\i64.wrap ((0:Int)+1)<(↑(3:Nat):Int),(0:Nat)<1,(0:Int)<=i64.wrap ((0:Int)+1)/\i64.wrap ((0:Int)+1)<(↑(3:Nat):Int),(0:Nat)<1,n<2^42,m<2^42,(0:Int)<=i64.wrap ((0:Int)+1)/\i64.wrap ((0:Int)+1)<(↑(3:Nat):Int),(0:Nat)<1] (ag.aj [(0:Int)<=i64.wrap (i64.wrap ((0:Int)+1)+1)/\i64.wrap (i64.wrap ((0:Int)+1)+1)<(↑(3:Nat):Int),(0:Nat)<1,(0:Int)<=i64.wrap (i64.wrap ((0:Int)+1)+1)/\i64.wrap (i64.wrap ((0:Int)+1)+1)<(↑(3:Nat):Int),(0:Nat)<1,n<2^42,m<2^42,(0:Int)<=i64.wrap (i64.wrap ((0:Int)+1)+1)/\i64.wrap (i64.wrap ((0:Int)+1)+1)<(↑(3:Nat):Int),(0:Nat)<1] (ag.aj [(0:Nat)<1,(0:Nat)<1] (ag.aj [(0:Nat)<1] (ag.leaf ak.ret [agg [rat (u.x+v.x) (n+m+1),rat (u.y+v.y) (n+m+1),rat (u.z+v.z) (n+m+1)]])))))):=ah
theorem N7 {u v:V3} {n m:Nat}:bD T eO [] 60 f127 (aF f127) ⟨aT 0 [vA u n,vA v m,.func 38 []],[],0⟩=
  some (ag.aj [(0:Int)<=0/\(0:Int)<(↑(3:Nat):Int),(0:Nat)<1,(0:Int)<=0/\(0:Int)<(↑(3:Nat):Int),(0:Nat)<1,n<2^42,m<2^42,(0:Int)<=0/\(0:Int)<(↑(3:Nat):Int),(0:Nat)<1] (ag.aj [(0:Int)<=i64.wrap ((0:Int)+1)/\i64.wrap ((0:Int)+1)<(↑(3:Nat):Int),(0:Nat)<1,(0:Int)<=i64.wrap ((0:Int)+1)/\i64.wrap ((0:Int)+1)<(↑(3:Nat):Int),(0:Nat)<1,n<2^42,m<2^42,(0:Int)<=i64.wrap ((0:Int)+1)/\i64.wrap ((0:Int)+1)<(↑(3:Nat):Int),(0:Nat)<1] (ag.aj [(0:Int)<=i64.wrap (i64.wrap ((0:Int)+1)+1)/\i64.wrap (i64.wrap ((0:Int)+1)+1)<(↑(3:Nat):Int),(0:Nat)<1,(0:Int)<=i64.wrap (i64.wrap ((0:Int)+1)+1)/\i64.wrap (i64.wrap ((0:Int)+1)+1)<(↑(3:Nat):Int),(0:Nat)<1,n<2^42,m<2^42,(0:Int)<=i64.wrap (i64.wrap ((0:Int)+1)+1)/\i64.wrap (i64.wrap ((0:Int)+1)+1)<(↑(3:Nat):Int),(0:Nat)<1] (ag.aj [(0:Nat)<1,(0:Nat)<1] (ag.aj [(0:Nat)<1] (ag.leaf ak.ret [agg [rat (u.x-v.x) (n+m+1),rat (u.y-v.y) (n+m+1),rat (u.z-v.z) (n+m+1)]])))))):=ah
theorem OC {u v:V3} {n m:Nat}:bD T eO [] 60 f127 (aF f127) ⟨aT 0 [vA u n,vA v m,.func 92 []],[],0⟩=
  some (ag.aj [(0:Int)<=0/\(0:Int)<(↑(3:Nat):Int),(0:Nat)<1,(0:Int)<=0/\(0:Int)<(↑(3:Nat):Int),(0:Nat)<1,n<2^42,m<2^42,(0:Int)<=0/\(0:Int)<(↑(3:Nat):Int),(0:Nat)<1] (ag.aj [(0:Int)<=i64.wrap ((0:Int)+1)/\i64.wrap ((0:Int)+1)<(↑(3:Nat):Int),(0:Nat)<1,(0:Int)<=i64.wrap ((0:Int)+1)/\i64.wrap ((0:Int)+1)<(↑(3:Nat):Int),(0:Nat)<1,n<2^42,m<2^42,(0:Int)<=i64.wrap ((0:Int)+1)/\i64.wrap ((0:Int)+1)<(↑(3:Nat):Int),(0:Nat)<1] (ag.aj [(0:Int)<=i64.wrap (i64.wrap ((0:Int)+1)+1)/\i64.wrap (i64.wrap ((0:Int)+1)+1)<(↑(3:Nat):Int),(0:Nat)<1,(0:Int)<=i64.wrap (i64.wrap ((0:Int)+1)+1)/\i64.wrap (i64.wrap ((0:Int)+1)+1)<(↑(3:Nat):Int),(0:Nat)<1,n<2^42,m<2^42,(0:Int)<=i64.wrap (i64.wrap ((0:Int)+1)+1)/\i64.wrap (i64.wrap ((0:Int)+1)+1)<(↑(3:Nat):Int),(0:Nat)<1] (ag.aj [(0:Nat)<1,(0:Nat)<1] (ag.aj [(0:Nat)<1] (ag.leaf ak.ret [agg [rat (u.x*v.x) (n+m),rat (u.y*v.y) (n+m),rat (u.z*v.z) (n+m)]])))))):=ah
theorem Yx {u v:V3} {n m:Nat}:bD T eO [16] 60 f72 (aF f72) ⟨aT 0 [vA u n,vA v m],[],0⟩=
  some (ag.aj [(0:Int)<=0/\(0:Int)<(↑(3:Nat):Int),(0:Nat)<1,(0:Int)<=0/\(0:Int)<(↑(3:Nat):Int),(0:Nat)<1,n<2^42,m<2^42] (ag.fork (!decide (u.x=v.x)) (ag.leaf ak.ret [AV.bool false]) (ag.aj [(0:Int)<=i64.wrap ((0:Int)+1)/\i64.wrap ((0:Int)+1)<(↑(3:Nat):Int),(0:Nat)<1,(0:Int)<=i64.wrap ((0:Int)+1)/\i64.wrap ((0:Int)+1)<(↑(3:Nat):Int),(0:Nat)<1,n<2^42,m<2^42] (ag.fork (!decide (u.y=v.y)) (ag.leaf ak.ret [AV.bool false]) (ag.aj [(0:Int)<=i64.wrap (i64.wrap ((0:Int)+1)+1)/\i64.wrap (i64.wrap ((0:Int)+1)+1)<(↑(3:Nat):Int),(0:Nat)<1,(0:Int)<=i64.wrap (i64.wrap ((0:Int)+1)+1)/\i64.wrap (i64.wrap ((0:Int)+1)+1)<(↑(3:Nat):Int),(0:Nat)<1,n<2^42,m<2^42] (ag.fork (!decide (u.z=v.z)) (ag.leaf ak.ret [AV.bool false]) (ag.leaf ak.ret [AV.bool true]))))))):=ah
def tJ (u v:V3):V3:=⟨u.y*v.z-u.z*v.y,u.z*v.x-u.x*v.z,u.x*v.y-u.y*v.x⟩
def dot (u v:V3):Rat:=0+u.x*v.x+u.y*v.y+u.z*v.z
def kO (u v:V3):V3:=⟨u.x+v.x,u.y+v.y,u.z+v.z⟩
def bV (u v:V3):V3:=⟨u.x-v.x,u.y-v.y,u.z-v.z⟩
def afQ (u v:V3):V3:=⟨u.x*v.x,u.y*v.y,u.z*v.z⟩
def gW (q:Rat) (v:V3):V3:=⟨q*v.x,q*v.y,q*v.z⟩
def gr (u v:V3):Bool:=decide (u.x=v.x)&&(decide (u.y=v.y)&&decide (u.z=v.z))
abbrev v0:V3:=⟨0,0,0⟩
def fW {α β:Type} (a:α×Nat) (b:β×Nat):List Prop:=[a.2<2^38,b.2<2^38]
def rD (a b:V3×Nat):AV:=vA (tJ a.1 b.1) (a.2+b.2+(a.2+b.2)+1)
def p9 (a b:V3×Nat):AV:=rA (dot a.1 b.1) (3*(a.2+b.2)+4)
def rK (a b:V3×Nat):AV:=.bool (gr a.1 b.1)
def rN (a b:V3×Nat):AV:=vA (kO a.1 b.1) (a.2+b.2+1)
def nU (a b:V3×Nat):AV:=vA (bV a.1 b.1) (a.2+b.2+1)
def Mj (a b:V3×Nat):AV:=vA (afQ a.1 b.1) (a.2+b.2)
def Iv (a:Rat×Nat) (b:V3×Nat):AV:=vA (gW a.1 b.1) (a.2+b.2)
def tX (a:V3×Nat):AV:=.bool (gr a.1 v0)
theorem Ig (a b:V3×Nat) (K:Nat) (h:au (fW a b)):aO P 75 K [kV.make a,kV.make b] [] (aI (rD a b) []):=by
 obtain⟨u,n⟩:=a
 obtain⟨v,m⟩:=b
 obtain⟨h1,h2⟩:n<2^38/\m<2^38:=h
 refine bJ hT fq hm afE rfl aV rfl 60 aeE (fun _=>?_) K []
 simp only[ag.all,au]
 (repeat' with_reducible refine And.intro ?_ ?_)
 all_goals first|omega|decide|exact bg.refl _
theorem MY (a b:V3×Nat) (K:Nat) (h:au (fW a b)):aO P 76 K [kV.make a,kV.make b] [] (aI (p9 a b) []):=by
 obtain⟨u,n⟩:=a
 obtain⟨v,m⟩:=b
 obtain⟨h1,h2⟩:n<2^38/\m<2^38:=h
 refine bJ hT fq hm Xp rfl aV rfl 60 Qs (fun _=>?_) K []
 simp only[ag.all,au]
 (repeat' with_reducible refine And.intro ?_ ?_)
 all_goals first|omega|decide|exact bI rfl (by simp only;omega)
theorem Kk (a b:V3×Nat) (K:Nat) (h:au (fW a b)):aO P 72 K [kV.make a,kV.make b] [] (aI (rK a b) []):=by
 obtain⟨u,n⟩:=a
 obtain⟨v,m⟩:=b
 obtain⟨h1,h2⟩:n<2^38/\m<2^38:=h
 refine bJ hT fq hm Zw rfl aV rfl 60 Yx (fun _=>?_) K []
 simp only[ag.all,au,Bool.not_eq_true',Bool.not_eq_false',bz,bF]
 (repeat' with_reducible first|refine And.intro ?_ ?_|intro _)
 all_goals first | omega | decide | exact gQ (by simp [gr, *])
theorem BX (a b:V3×Nat) (K:Nat) (h:au (fW a b)):aO P 127 K [kV.make a,kV.make b,.func 91 []] [] (aI (rN a b) [])/\aO P 127 K [kV.make a,kV.make b,.func 38 []] [] (aI (nU a b) [])/\aO P 127 K [kV.make a,kV.make b,.func 92 []] [] (aI (Mj a b) []):=by
 obtain⟨u,n⟩:=a
 obtain⟨v,m⟩:=b
 obtain⟨h1,h2⟩:n<2^38/\m<2^38:=h
 refine⟨?_,?_,?_⟩
 ·refine bJ hT fq hm DF rfl aV rfl 60 Yl (fun _=>?_) K []
  simp only[ag.all,au]
  (repeat' with_reducible refine And.intro ?_ ?_)
  all_goals first|omega|decide|exact bg.refl _
 ·refine bJ hT fq hm DF rfl aV rfl 60 N7 (fun _=>?_) K []
  simp only[ag.all,au]
  (repeat' with_reducible refine And.intro ?_ ?_)
  all_goals first|omega|decide|exact bg.refl _
 ·refine bJ hT fq hm DF rfl aV rfl 60 OC (fun _=>?_) K []
  simp only[ag.all,au]
  (repeat' with_reducible refine And.intro ?_ ?_)
  all_goals first|omega|decide|exact bg.refl _
def JZ:Spec:=bY fun l=>match l with
 |[x,y,.func f []]=>match kV.read x,kV.read y with
  |some (a,p),some (b,q)=>bif f==91 then some (aI (rN a b) (p++(q++fW a b)))else bif f==38 then some (aI (nU a b) (p++(q++fW a b)))else bif f==92 then some (aI (Mj a b) (p++(q++fW a b)))else none
  |_,_=>none
 |_=>none
def zH:aU:=[(127,JZ),(72,fS kV kV rK fW)]
theorem aaQ:aY P JZ 127:=by
 refine cJ fun K args r hk hs _=>?_
 split at hs
 ·rename_i x y f
  split at hs
  ·rename_i a p b q ha hb
   have hle:au (p++(q++fW a b))->au (fW a b)/\dH [x,y,.func f []] [kV.make a,kV.make b,.func f []]:=fun hn=>⟨(dP.1 (dP.1 hn).2).2,kV.ok ha (dP.1 hn).1,kV.ok hb (dP.1 (dP.1 hn).2).1,.refl _,trivial⟩
   simp only[cond_eq_ite,beq_iff_eq]at hs
   split at hs
   ·rename_i hf
    subst hf
    simp only[ax]at hs
    subst hs
    exact fun hn=>eW (BX a b K (hle hn).1).1 hk (hle hn).2 [] trivial
   ·split at hs
    ·rename_i hf
     subst hf
     simp only[ax]at hs
     subst hs
     exact fun hn=>eW (BX a b K (hle hn).1).2.1 hk (hle hn).2 [] trivial
    ·split at hs
     ·rename_i hf
      subst hf
      simp only[ax]at hs
      subst hs
      exact fun hn=>eW (BX a b K (hle hn).1).2.2 hk (hle hn).2 [] trivial
     ·simp at hs
  ·simp at hs
 ·simp at hs
theorem Cc:aZ P zH:=aE aaQ (aE (fY Kk) bA)
theorem aeP:aW 166 f166:=aN func166
theorem Tt:aW 73 f73:=aN func73
theorem N3:aW 74 f74:=aN func74
theorem Wk {u v:V3} {n m:Nat}:bD T zH [] 60 f166 (aF f166) ⟨aT 0 [vA u n,vA v m],[],0⟩=
  some (ag.aj [(0:Nat)<1,(0:Nat)<1,n<=n,n<=n,m<=m,m<=m,n<2^38,m<2^38,(0:Nat)<1] (ag.aj [(0:Nat)<1] (ag.leaf ak.ret [agg [rat (u.x+v.x) (n+m+1),rat (u.y+v.y) (n+m+1),rat (u.z+v.z) (n+m+1)]]))):=ah
theorem agu {u v:V3} {n m:Nat}:bD T zH [] 60 f73 (aF f73) ⟨aT 0 [vA u n,vA v m],[],0⟩=
  some (ag.aj [(0:Nat)<1,(0:Nat)<1,n<=n,n<=n,m<=m,m<=m,n<2^38,m<2^38,(0:Nat)<1] (ag.aj [(0:Nat)<1] (ag.leaf ak.ret [agg [rat (u.x-v.x) (n+m+1),rat (u.y-v.y) (n+m+1),rat (u.z-v.z) (n+m+1)]]))):=ah
theorem Tp {u:V3} {n:Nat}:bD T zH [] 60 f74 (aF f74) ⟨aT 0 [vA u n],[],0⟩=
  some (ag.aj [(0:Nat)<1,n<=n,n<=n,(1:Nat)<=1,(1:Nat)<=1,n<2^38,(1:Nat)<2^38] (ag.leaf ak.ret [AV.bool (gr {x:=u.x,y:=u.y,z:=u.z} {x:=0,y:=0,z:=0})])):=ah
theorem VB (a b:V3×Nat) (K:Nat) (h:au (fW a b)):aO P 166 K [kV.make a,kV.make b] [] (aI (rN a b) []):=by
 obtain⟨u,n⟩:=a
 obtain⟨v,m⟩:=b
 obtain⟨h1,h2⟩:n<2^38/\m<2^38:=h
 refine bJ hT Cc hm aeP rfl aV rfl 60 Wk (fun _=>?_) K []
 simp only[ag.all,au,Nat.max_self]
 (repeat' with_reducible refine And.intro ?_ ?_)
 all_goals first|omega|decide|exact bg.refl _
theorem FH (a b:V3×Nat) (K:Nat) (h:au (fW a b)):aO P 73 K [kV.make a,kV.make b] [] (aI (nU a b) []):=by
 obtain⟨u,n⟩:=a
 obtain⟨v,m⟩:=b
 obtain⟨h1,h2⟩:n<2^38/\m<2^38:=h
 refine bJ hT Cc hm Tt rfl aV rfl 60 agu (fun _=>?_) K []
 simp only[ag.all,au,Nat.max_self]
 (repeat' with_reducible refine And.intro ?_ ?_)
 all_goals first|omega|decide|exact bg.refl _
theorem LG (a:V3×Nat) (K:Nat) (h:au [a.2<2^38]):aO P 74 K [kV.make a] [] (aI (tX a) []):=by
 obtain⟨u,n⟩:=a
 have h1:n<2^38:=h
 refine bJ hT Cc hm N3 rfl aV rfl 60 Tp (fun _=>?_) K []
 simp only[ag.all,au,Nat.max_self]
 (repeat' with_reducible refine And.intro ?_ ?_)
 all_goals first|omega|decide|exact bg.refl _
end Go.Am.B
