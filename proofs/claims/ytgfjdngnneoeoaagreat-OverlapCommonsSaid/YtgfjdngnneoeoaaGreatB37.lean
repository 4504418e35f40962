/- ref04: Same, Add, Sub, Scale, Dot, Cross, Unit. -/
import Derived.Test.YtgfjdngnneoeoaaGreatB36
set_option linter.unusedVariables false
namespace Go.Am.B
open Go Go.Am.N AV Proofs.Tryz IntKind
theorem Tk:aW 13 f13:=aN func13
theorem ZP:aW 27 f27:=aN func27
theorem Rg:aW 26 f26:=aN func26
theorem Ym:aW 19 f19:=aN func19
theorem adb:aW 98 f98:=aN func98
theorem Su:aW 141 f141:=aN func141
theorem Pr {u v:V3} {n m:Nat}:bD T ki [10,17] 60 f13 (aF f13) ⟨aT 0 [vA u n,vA v m],[],0⟩=
  some (ag.fork (decide (u.x=v.x)) (ag.fork (bif true then decide (u.y=v.y)else false) (ag.aj [(0:Int)<=0/\(0:Int)<(↑(3:Nat):Int),(0:Nat)<1,(0:Int)<=0/\(0:Int)<(↑(3:Nat):Int),(0:Nat)<1,n<2^41,m<2^41,decide (u.x=v.x)=true,(0:Int)<=1/\(1:Int)<(↑(3:Nat):Int),(0:Nat)<1,(0:Int)<=1/\(1:Int)<(↑(3:Nat):Int),(0:Nat)<1,n<2^41,m<2^41,(bif true then decide (u.y=v.y)else false)=true,(0:Int)<=2/\(2:Int)<(↑(3:Nat):Int),(0:Nat)<1,(0:Int)<=2/\(2:Int)<(↑(3:Nat):Int),(0:Nat)<1,n<2^41,m<2^41] (ag.leaf ak.ret [AV.bool (bif true then decide (u.z=v.z)else false)])) (ag.aj [(0:Int)<=0/\(0:Int)<(↑(3:Nat):Int),(0:Nat)<1,(0:Int)<=0/\(0:Int)<(↑(3:Nat):Int),(0:Nat)<1,n<2^41,m<2^41,decide (u.x=v.x)=true,(0:Int)<=1/\(1:Int)<(↑(3:Nat):Int),(0:Nat)<1,(0:Int)<=1/\(1:Int)<(↑(3:Nat):Int),(0:Nat)<1,n<2^41,m<2^41,(bif true then decide (u.y=v.y)else false)=false] (ag.leaf ak.ret [AV.bool false]))) (ag.fork false (ag.aj [(0:Int)<=0/\(0:Int)<(↑(3:Nat):Int),(0:Nat)<1,(0:Int)<=0/\(0:Int)<(↑(3:Nat):Int),(0:Nat)<1,n<2^41,m<2^41,decide (u.x=v.x)=false,false=true,(0:Int)<=2/\(2:Int)<(↑(3:Nat):Int),(0:Nat)<1,(0:Int)<=2/\(2:Int)<(↑(3:Nat):Int),(0:Nat)<1,n<2^41,m<2^41] (ag.leaf ak.ret [AV.bool (bif true then decide (u.z=v.z)else false)])) (ag.aj [(0:Int)<=0/\(0:Int)<(↑(3:Nat):Int),(0:Nat)<1,(0:Int)<=0/\(0:Int)<(↑(3:Nat):Int),(0:Nat)<1,n<2^41,m<2^41,decide (u.x=v.x)=false,false=false] (ag.leaf ak.ret [AV.bool false])))):=ah
theorem aa1 {u v:V3} {n m:Nat}:bD T ki [] 60 f27 (aF f27) ⟨aT 0 [vA u n,vA v m],[],0⟩=
  some (ag.aj [(0:Int)<=0/\(0:Int)<(↑(3:Nat):Int),(0:Nat)<1,(0:Int)<=0/\(0:Int)<(↑(3:Nat):Int),(0:Nat)<1,n<2^41,m<2^41,(0:Int)<=0/\(0:Int)<(↑(3:Nat):Int),(0:Nat)<1] (ag.aj [(0:Int)<=i64.wrap ((0:Int)+1)/\i64.wrap ((0:Int)+1)<(↑(3:Nat):Int),(0:Nat)<1,(0:Int)<=i64.wrap ((0:Int)+1)/\i64.wrap ((0:Int)+1)<(↑(3:Nat):Int),(0:Nat)<1,n<2^41,m<2^41,(0:Int)<=i64.wrap ((0:Int)+1)/\i64.wrap ((0:Int)+1)<(↑(3:Nat):Int),(0:Nat)<1] (ag.aj [(0:Int)<=i64.wrap (i64.wrap ((0:Int)+1)+1)/\i64.wrap (i64.wrap ((0:Int)+1)+1)<(↑(3:Nat):Int),(0:Nat)<1,(0:Int)<=i64.wrap (i64.wrap ((0:Int)+1)+1)/\i64.wrap (i64.wrap ((0:Int)+1)+1)<(↑(3:Nat):Int),(0:Nat)<1,n<2^41,m<2^41,(0:Int)<=i64.wrap (i64.wrap ((0:Int)+1)+1)/\i64.wrap (i64.wrap ((0:Int)+1)+1)<(↑(3:Nat):Int),(0:Nat)<1] (ag.aj [(0:Nat)<1,(0:Nat)<1] (ag.aj [(0:Nat)<1] (ag.leaf ak.ret [agg [rat (u.x+v.x) (n+m+1),rat (u.y+v.y) (n+m+1),rat (u.z+v.z) (n+m+1)]])))))):=ah
theorem Vs {u v:V3} {n m:Nat}:bD T ki [] 60 f26 (aF f26) ⟨aT 0 [vA u n,vA v m],[],0⟩=
  some (ag.aj [(0:Int)<=0/\(0:Int)<(↑(3:Nat):Int),(0:Nat)<1,(0:Int)<=0/\(0:Int)<(↑(3:Nat):Int),(0:Nat)<1,n<2^41,m<2^41,(0:Int)<=0/\(0:Int)<(↑(3:Nat):Int),(0:Nat)<1] (ag.aj [(0:Int)<=i64.wrap ((0:Int)+1)/\i64.wrap ((0:Int)+1)<(↑(3:Nat):Int),(0:Nat)<1,(0:Int)<=i64.wrap ((0:Int)+1)/\i64.wrap ((0:Int)+1)<(↑(3:Nat):Int),(0:Nat)<1,n<2^41,m<2^41,(0:Int)<=i64.wrap ((0:Int)+1)/\i64.wrap ((0:Int)+1)<(↑(3:Nat):Int),(0:Nat)<1] (ag.aj [(0:Int)<=i64.wrap (i64.wrap ((0:Int)+1)+1)/\i64.wrap (i64.wrap ((0:Int)+1)+1)<(↑(3:Nat):Int),(0:Nat)<1,(0:Int)<=i64.wrap (i64.wrap ((0:Int)+1)+1)/\i64.wrap (i64.wrap ((0:Int)+1)+1)<(↑(3:Nat):Int),(0:Nat)<1,n<2^41,m<2^41,(0:Int)<=i64.wrap (i64.wrap ((0:Int)+1)+1)/\i64.wrap (i64.wrap ((0:Int)+1)+1)<(↑(3:Nat):Int),(0:Nat)<1] (ag.aj [(0:Nat)<1,(0:Nat)<1] (ag.aj [(0:Nat)<1] (ag.leaf ak.ret [agg [rat (u.x-v.x) (n+m+1),rat (u.y-v.y) (n+m+1),rat (u.z-v.z) (n+m+1)]])))))):=ah
theorem OQ {u v:V3} {n m:Nat}:bD T ki [] 60 f98 (aF f98) ⟨aT 0 [vA u n,vA v m],[],0⟩=
  some (ag.aj [(0:Nat)<1,(0:Int)<=0/\(0:Int)<(↑(3:Nat):Int),(0:Nat)<1,(0:Int)<=0/\(0:Int)<(↑(3:Nat):Int),(0:Nat)<1,n<2^41,m<2^41,(1:Nat)<2^41,n+m<2^41,(0:Nat)<1] (ag.aj [(0:Nat)<1,(0:Int)<=i64.wrap ((0:Int)+1)/\i64.wrap ((0:Int)+1)<(↑(3:Nat):Int),(0:Nat)<1,(0:Int)<=i64.wrap ((0:Int)+1)/\i64.wrap ((0:Int)+1)<(↑(3:Nat):Int),(0:Nat)<1,n<2^41,m<2^41,(1:Nat)+(n+m)+1<2^41,n+m<2^41,(0:Nat)<1] (ag.aj [(0:Nat)<1,(0:Int)<=i64.wrap (i64.wrap ((0:Int)+1)+1)/\i64.wrap (i64.wrap ((0:Int)+1)+1)<(↑(3:Nat):Int),(0:Nat)<1,(0:Int)<=i64.wrap (i64.wrap ((0:Int)+1)+1)/\i64.wrap (i64.wrap ((0:Int)+1)+1)<(↑(3:Nat):Int),(0:Nat)<1,n<2^41,m<2^41,(1:Nat)+(n+m)+1+(n+m)+1<2^41,n+m<2^41,(0:Nat)<1] (ag.aj [(0:Nat)<1,(0:Nat)<1] (ag.aj [(0:Nat)<1] (ag.leaf ak.ret [rat ((0:Rat)+u.x*v.x+u.y*v.y+u.z*v.z) ((1:Nat)+(n+m)+1+(n+m)+1+(n+m)+1)])))))):=ah
theorem aeg {u v:V3} {n m:Nat}:bD T ki [] 60 f141 (aF f141) ⟨aT 0 [vA u n,vA v m],[],0⟩=
  some (ag.aj [(3:Int)≠(0:Int),(3:Int)≠(0:Int)] (ag.aj [(0:Int)<=(i64.wrap ((0:Int)+1)).tmod (3:Int)/\(i64.wrap ((0:Int)+1)).tmod (3:Int)<(↑(3:Nat):Int),(0:Nat)<1,(0:Int)<=(i64.wrap ((0:Int)+2)).tmod (3:Int)/\(i64.wrap ((0:Int)+2)).tmod (3:Int)<(↑(3:Nat):Int),(0:Nat)<1,n<2^41,m<2^41,(0:Int)<=(i64.wrap ((0:Int)+2)).tmod (3:Int)/\(i64.wrap ((0:Int)+2)).tmod (3:Int)<(↑(3:Nat):Int),(0:Nat)<1,(0:Int)<=(i64.wrap ((0:Int)+1)).tmod (3:Int)/\(i64.wrap ((0:Int)+1)).tmod (3:Int)<(↑(3:Nat):Int),(0:Nat)<1,n<2^41,m<2^41,n+m<2^41,n+m<2^41,(0:Int)<=0/\(0:Int)<(↑(3:Nat):Int),(0:Nat)<1] (ag.aj [(3:Int)≠(0:Int),(3:Int)≠(0:Int)] (ag.aj [(0:Int)<=(i64.wrap (i64.wrap ((0:Int)+1)+1)).tmod (3:Int)/\(i64.wrap (i64.wrap ((0:Int)+1)+1)).tmod (3:Int)<(↑(3:Nat):Int),(0:Nat)<1,(0:Int)<=(i64.wrap (i64.wrap ((0:Int)+1)+2)).tmod (3:Int)/\(i64.wrap (i64.wrap ((0:Int)+1)+2)).tmod (3:Int)<(↑(3:Nat):Int),(0:Nat)<1,n<2^41,m<2^41,(0:Int)<=(i64.wrap (i64.wrap ((0:Int)+1)+2)).tmod (3:Int)/\(i64.wrap (i64.wrap ((0:Int)+1)+2)).tmod (3:Int)<(↑(3:Nat):Int),(0:Nat)<1,(0:Int)<=(i64.wrap (i64.wrap ((0:Int)+1)+1)).tmod (3:Int)/\(i64.wrap (i64.wrap ((0:Int)+1)+1)).tmod (3:Int)<(↑(3:Nat):Int),(0:Nat)<1,n<2^41,m<2^41,n+m<2^41,n+m<2^41,(0:Int)<=i64.wrap ((0:Int)+1)/\i64.wrap ((0:Int)+1)<(↑(3:Nat):Int),(0:Nat)<1] (ag.aj [(3:Int)≠(0:Int),(3:Int)≠(0:Int)] (ag.aj [(0:Int)<=(i64.wrap (i64.wrap (i64.wrap ((0:Int)+1)+1)+1)).tmod (3:Int)/\(i64.wrap (i64.wrap (i64.wrap ((0:Int)+1)+1)+1)).tmod (3:Int)<(↑(3:Nat):Int),(0:Nat)<1,(0:Int)<=(i64.wrap (i64.wrap (i64.wrap ((0:Int)+1)+1)+2)).tmod (3:Int)/\(i64.wrap (i64.wrap (i64.wrap ((0:Int)+1)+1)+2)).tmod (3:Int)<(↑(3:Nat):Int),(0:Nat)<1,n<2^41,m<2^41,(0:Int)<=(i64.wrap (i64.wrap (i64.wrap ((0:Int)+1)+1)+2)).tmod (3:Int)/\(i64.wrap (i64.wrap (i64.wrap ((0:Int)+1)+1)+2)).tmod (3:Int)<(↑(3:Nat):Int),(0:Nat)<1,(0:Int)<=(i64.wrap (i64.wrap (i64.wrap ((0:Int)+1)+1)+1)).tmod (3:Int)/\(i64.wrap (i64.wrap (i64.wrap ((0:Int)+1)+1)+1)).tmod (3:Int)<(↑(3:Nat):Int),(0:Nat)<1,n<2^41,m<2^41,n+m<2^41,n+m<2^41,(0:Int)<=i64.wrap (i64.wrap ((0:Int)+1)+1)/\i64.wrap (i64.wrap ((0:Int)+1)+1)<(↑(3:Nat):Int),(0:Nat)<1] (ag.aj [(0:Nat)<1,(0:Nat)<1] (ag.aj [(0:Nat)<1] (ag.leaf ak.ret [agg [rat (u.y*v.z-u.z*v.y) (n+m+(n+m)+1),rat (u.z*v.x-u.x*v.z) (n+m+(n+m)+1),rat (u.x*v.y-u.y*v.x) (n+m+(n+m)+1)]]))))))))):=ah
theorem S9 {q:Rat} {v:V3} {n m:Nat}:bD T ki [] 60 f19 (aF f19) ⟨aT 0 [rA q n,vA v m],[],0⟩=
  some (ag.aj [(0:Nat)<1,(0:Int)<=0/\(0:Int)<(↑(3:Nat):Int),(0:Nat)<1,n<2^41,m<2^41,(0:Int)<=0/\(0:Int)<(↑(3:Nat):Int),(0:Nat)<1] (ag.aj [(0:Nat)<1,(0:Int)<=i64.wrap ((0:Int)+1)/\i64.wrap ((0:Int)+1)<(↑(3:Nat):Int),(0:Nat)<1,n<2^41,m<2^41,(0:Int)<=i64.wrap ((0:Int)+1)/\i64.wrap ((0:Int)+1)<(↑(3:Nat):Int),(0:Nat)<1] (ag.aj [(0:Nat)<1,(0:Int)<=i64.wrap (i64.wrap ((0:Int)+1)+1)/\i64.wrap (i64.wrap ((0:Int)+1)+1)<(↑(3:Nat):Int),(0:Nat)<1,n<2^41,m<2^41,(0:Int)<=i64.wrap (i64.wrap ((0:Int)+1)+1)/\i64.wrap (i64.wrap ((0:Int)+1)+1)<(↑(3:Nat):Int),(0:Nat)<1] (ag.aj [(0:Nat)<1,(0:Nat)<1] (ag.aj [(0:Nat)<1] (ag.leaf ak.ret [agg [rat (q*v.x) (n+m),rat (q*v.y) (n+m),rat (q*v.z) (n+m)]])))))):=ah
theorem EI (a b:V3×Nat) (K:Nat) (h:au (fW a b)):aO P 13 K [kV.make a,kV.make b] [] (aI (rK a b) []):=by
 obtain⟨u,n⟩:=a
 obtain⟨v,m⟩:=b
 obtain⟨h1,h2⟩:n<2^38/\m<2^38:=h
 refine bJ hT lH hm Tk rfl aV rfl 60 Pr (fun _=>?_) K []
 simp only[ag.all,au,bz,bF]
 (repeat' with_reducible first|refine And.intro ?_ ?_|intro _)
 all_goals first|omega|decide|assumption|skip
 all_goals first|exact gQ (by simp_all [gr])|simp_all
theorem Og (a b:V3×Nat) (K:Nat) (h:au (fW a b)):aO P 27 K [kV.make a,kV.make b] [] (aI (rN a b) []):=by
 obtain⟨u,n⟩:=a
 obtain⟨v,m⟩:=b
 obtain⟨h1,h2⟩:n<2^38/\m<2^38:=h
 refine bJ hT lH hm ZP rfl aV rfl 60 aa1 (fun _=>?_) K []
 simp only[ag.all,au,Nat.max_self]
 (repeat' with_reducible refine And.intro ?_ ?_)
 all_goals first|omega|decide|exact bg.refl _
theorem BW (a b:V3×Nat) (K:Nat) (h:au (fW a b)):aO P 26 K [kV.make a,kV.make b] [] (aI (nU a b) []):=by
 obtain⟨u,n⟩:=a
 obtain⟨v,m⟩:=b
 obtain⟨h1,h2⟩:n<2^38/\m<2^38:=h
 refine bJ hT lH hm Rg rfl aV rfl 60 Vs (fun _=>?_) K []
 simp only[ag.all,au,Nat.max_self]
 (repeat' with_reducible refine And.intro ?_ ?_)
 all_goals first|omega|decide|exact bg.refl _
theorem Xs (a:Rat×Nat) (b:V3×Nat) (K:Nat) (h:au (fW a b)):aO P 19 K [kR.make a,kV.make b] [] (aI (Iv a b) []):=by
 obtain⟨u,n⟩:=a
 obtain⟨v,m⟩:=b
 obtain⟨h1,h2⟩:n<2^38/\m<2^38:=h
 refine bJ hT lH hm Ym rfl aV rfl 60 S9 (fun _=>?_) K []
 simp only[ag.all,au,Nat.max_self]
 (repeat' with_reducible refine And.intro ?_ ?_)
 all_goals first|omega|decide|exact bg.refl _
theorem AK (a b:V3×Nat) (K:Nat) (h:au (fW a b)):aO P 98 K [kV.make a,kV.make b] [] (aI (p9 a b) []):=by
 obtain⟨u,n⟩:=a
 obtain⟨v,m⟩:=b
 obtain⟨h1,h2⟩:n<2^38/\m<2^38:=h
 refine bJ hT lH hm adb rfl aV rfl 60 OQ (fun _=>?_) K []
 simp only[ag.all,au,Nat.max_self]
 (repeat' with_reducible refine And.intro ?_ ?_)
 all_goals first|omega|decide|exact bI rfl (by simp only;omega)
theorem Ja (a b:V3×Nat) (K:Nat) (h:au (fW a b)):aO P 141 K [kV.make a,kV.make b] [] (aI (rD a b) []):=by
 obtain⟨u,n⟩:=a
 obtain⟨v,m⟩:=b
 obtain⟨h1,h2⟩:n<2^38/\m<2^38:=h
 refine bJ hT lH hm Su rfl aV rfl 60 aeg (fun _=>?_) K []
 simp only[ag.all,au,Nat.max_self]
 (repeat' with_reducible refine And.intro ?_ ?_)
 all_goals first|omega|decide|exact bg.refl _
end Go.Am.B
