/- ref04: Same, Add, Sub, Scale, Dot, Cross, Unit. -/
import Derived.Test.YtgfjdngnneoeoaaGreatB36
set_option linter.unusedVariables false
namespace Go.Am.B
open Go Go.Am.N AV Proofs.Tryz IntKind
theorem Q6:aX 13 f13:=aM func13
theorem agM:aX 27 f27:=aM func27
theorem X4:aX 26 f26:=aM func26
theorem YE:aX 19 f19:=aM func19
theorem adH:aX 98 f98:=aM func98
theorem RU:aX 141 f141:=aM func141
theorem WM {u v:V3} {n m:Nat}:bF T ja [10,17] 60 f13 (aF f13) ⟨aS 0 [vA u n,vA v m],[],0⟩=
  some (ag.fork (decide (u.x=v.x)) (ag.fork (bif true then decide (u.y=v.y)else false) (ag.aj [(0:Int)<=0/\(0:Int)<(↑(3:Nat):Int),(0:Nat)<1,(0:Int)<=0/\(0:Int)<(↑(3:Nat):Int),(0:Nat)<1,n<2^41,m<2^41,decide (u.x=v.x)=true,(0:Int)<=1/\(1:Int)<(↑(3:Nat):Int),(0:Nat)<1,(0:Int)<=1/\(1:Int)<(↑(3:Nat):Int),(0:Nat)<1,n<2^41,m<2^41,(bif true then decide (u.y=v.y)else false)=true,(0:Int)<=2/\(2:Int)<(↑(3:Nat):Int),(0:Nat)<1,(0:Int)<=2/\(2:Int)<(↑(3:Nat):Int),(0:Nat)<1,n<2^41,m<2^41] (ag.leaf aq.ret [AV.bool (bif true then decide (u.z=v.z)else false)])) (ag.aj [(0:Int)<=0/\(0:Int)<(↑(3:Nat):Int),(0:Nat)<1,(0:Int)<=0/\(0:Int)<(↑(3:Nat):Int),(0:Nat)<1,n<2^41,m<2^41,decide (u.x=v.x)=true,(0:Int)<=1/\(1:Int)<(↑(3:Nat):Int),(0:Nat)<1,(0:Int)<=1/\(1:Int)<(↑(3:Nat):Int),(0:Nat)<1,n<2^41,m<2^41,(bif true then decide (u.y=v.y)else false)=false] (ag.leaf aq.ret [AV.bool false]))) (ag.fork false (ag.aj [(0:Int)<=0/\(0:Int)<(↑(3:Nat):Int),(0:Nat)<1,(0:Int)<=0/\(0:Int)<(↑(3:Nat):Int),(0:Nat)<1,n<2^41,m<2^41,decide (u.x=v.x)=false,false=true,(0:Int)<=2/\(2:Int)<(↑(3:Nat):Int),(0:Nat)<1,(0:Int)<=2/\(2:Int)<(↑(3:Nat):Int),(0:Nat)<1,n<2^41,m<2^41] (ag.leaf aq.ret [AV.bool (bif true then decide (u.z=v.z)else false)])) (ag.aj [(0:Int)<=0/\(0:Int)<(↑(3:Nat):Int),(0:Nat)<1,(0:Int)<=0/\(0:Int)<(↑(3:Nat):Int),(0:Nat)<1,n<2^41,m<2^41,decide (u.x=v.x)=false,false=false] (ag.leaf aq.ret [AV.bool false])))):=ah
theorem aaq {u v:V3} {n m:Nat}:bF T ja [] 60 f27 (aF f27) ⟨aS 0 [vA u n,vA v m],[],0⟩=
  some (ag.aj [(0:Int)<=0/\(0:Int)<(↑(3:Nat):Int),(0:Nat)<1,(0:Int)<=0/\(0:Int)<(↑(3:Nat):Int),(0:Nat)<1,n<2^41,m<2^41,(0:Int)<=0/\(0:Int)<(↑(3:Nat):Int),(0:Nat)<1] (ag.aj [(0:Int)<=i64.wrap ((0:Int)+1)/\i64.wrap ((0:Int)+1)<(↑(3:Nat):Int),(0:Nat)<1,(0:Int)<=i64.wrap ((0:Int)+1)/\i64.wrap ((0:Int)+1)<(↑(3:Nat):Int),(0:Nat)<1,n<2^41,m<2^41,(0:Int)<=i64.wrap ((0:Int)+1)/\i64.wrap ((0:Int)+1)<(↑(3:Nat):Int),(0:Nat)<1] (ag.aj [(0:Int)<=i64.wrap (i64.wrap ((0:Int)+1)+1)/\i64.wrap (i64.wrap ((0:Int)+1)+1)<(↑(3:Nat):Int),(0:Nat)<1,(0:Int)<=i64.wrap (i64.wrap ((0:Int)+1)+1)/\i64.wrap (i64.wrap ((0:Int)+1)+1)<(↑(3:Nat):Int),(0:Nat)<1,n<2^41,m<2^41,(0:Int)<=i64.wrap (i64.wrap ((0:Int)+1)+1)/\i64.wrap (i64.wrap ((0:Int)+1)+1)<(↑(3:Nat):Int),(0:Nat)<1] (ag.aj [(0:Nat)<1,(0:Nat)<1] (ag.aj [(0:Nat)<1] (ag.leaf aq.ret [agg [rat (u.x+v.x) (n+m+1),rat (u.y+v.y) (n+m+1),rat (u.z+v.z) (n+m+1)]])))))):=ah
theorem U1 {u v:V3} {n m:Nat}:bF T ja [] 60 f26 (aF f26) ⟨aS 0 [vA u n,vA v m],[],0⟩=
  some (ag.aj [(0:Int)<=0/\(0:Int)<(↑(3:Nat):Int),(0:Nat)<1,(0:Int)<=0/\(0:Int)<(↑(3:Nat):Int),(0:Nat)<1,n<2^41,m<2^41,(0:Int)<=0/\(0:Int)<(↑(3:Nat):Int),(0:Nat)<1] (ag.aj [(0:Int)<=i64.wrap ((0:Int)+1)/\i64.wrap ((0:Int)+1)<(↑(3:Nat):Int),(0:Nat)<1,(0:Int)<=i64.wrap ((0:Int)+1)/\i64.wrap ((0:Int)+1)<(↑(3:Nat):Int),(0:Nat)<1,n<2^41,m<2^41,(0:Int)<=i64.wrap ((0:Int)+1)/\i64.wrap ((0:Int)+1)<(↑(3:Nat):Int),(0:Nat)<1] (ag.aj [(0:Int)<=i64.wrap (i64.wrap ((0:Int)+1)+1)/\i64.wrap (i64.wrap ((0:Int)+1)+1)<(↑(3:Nat):Int),(0:Nat)<1,(0:Int)<=i64.wrap (i64.wrap ((0:Int)+1)+1)/\i64.wrap (i64.wrap ((0:Int)+1)+1)<(↑(3:Nat):Int),(0:Nat)<1,n<2^41,m<2^41,(0:Int)<=i64.wrap (i64.wrap ((0:Int)+1)+1)/\i64.wrap (i64.wrap ((0:Int)+1)+1)<(↑(3:Nat):Int),(0:Nat)<1] (ag.aj [(0:Nat)<1,(0:Nat)<1] (ag.aj [(0:Nat)<1] (ag.leaf aq.ret [agg [rat (u.x-v.x) (n+m+1),rat (u.y-v.y) (n+m+1),rat (u.z-v.z) (n+m+1)]])))))):=ah
theorem aaG {u v:V3} {n m:Nat}:bF T ja [] 60 f98 (aF f98) ⟨aS 0 [vA u n,vA v m],[],0⟩=
  some (ag.aj [(0:Nat)<1,(0:Int)<=0/\(0:Int)<(↑(3:Nat):Int),(0:Nat)<1,(0:Int)<=0/\(0:Int)<(↑(3:Nat):Int),(0:Nat)<1,n<2^41,m<2^41,(1:Nat)<2^41,n+m<2^41,(0:Nat)<1] (ag.aj [(0:Nat)<1,(0:Int)<=i64.wrap ((0:Int)+1)/\i64.wrap ((0:Int)+1)<(↑(3:Nat):Int),(0:Nat)<1,(0:Int)<=i64.wrap ((0:Int)+1)/\i64.wrap ((0:Int)+1)<(↑(3:Nat):Int),(0:Nat)<1,n<2^41,m<2^41,(1:Nat)+(n+m)+1<2^41,n+m<2^41,(0:Nat)<1] (ag.aj [(0:Nat)<1,(0:Int)<=i64.wrap (i64.wrap ((0:Int)+1)+1)/\i64.wrap (i64.wrap ((0:Int)+1)+1)<(↑(3:Nat):Int),(0:Nat)<1,(0:Int)<=i64.wrap (i64.wrap ((0:Int)+1)+1)/\i64.wrap (i64.wrap ((0:Int)+1)+1)<(↑(3:Nat):Int),(0:Nat)<1,n<2^41,m<2^41,(1:Nat)+(n+m)+1+(n+m)+1<2^41,n+m<2^41,(0:Nat)<1] (ag.aj [(0:Nat)<1,(0:Nat)<1] (ag.aj [(0:Nat)<1] (ag.leaf aq.ret [rat ((0:Rat)+u.x*v.x+u.y*v.y+u.z*v.z) ((1:Nat)+(n+m)+1+(n+m)+1+(n+m)+1)])))))):=ah
theorem aah {u v:V3} {n m:Nat}:bF T ja [] 60 f141 (aF f141) ⟨aS 0 [vA u n,vA v m],[],0⟩=
  some (ag.aj [(3:Int)≠(0:Int),(3:Int)≠(0:Int)] (ag.aj [(0:Int)<=(i64.wrap ((0:Int)+1)).tmod (3:Int)/\(i64.wrap ((0:Int)+1)).tmod (3:Int)<(↑(3:Nat):Int),(0:Nat)<1,(0:Int)<=(i64.wrap ((0:Int)+2)).tmod (3:Int)/\(i64.wrap ((0:Int)+2)).tmod (3:Int)<(↑(3:Nat):Int),(0:Nat)<1,n<2^41,m<2^41,(0:Int)<=(i64.wrap ((0:Int)+2)).tmod (3:Int)/\(i64.wrap ((0:Int)+2)).tmod (3:Int)<(↑(3:Nat):Int),(0:Nat)<1,(0:Int)<=(i64.wrap ((0:Int)+1)).tmod (3:Int)/\(i64.wrap ((0:Int)+1)).tmod (3:Int)<(↑(3:Nat):Int),(0:Nat)<1,n<2^41,m<2^41,n+m<2^41,n+m<2^41,(0:Int)<=0/\(0:Int)<(↑(3:Nat):Int),(0:Nat)<1] (ag.aj [(3:Int)≠(0:Int),(3:Int)≠(0:Int)] (ag.aj [(0:Int)<=(i64.wrap (i64.wrap ((0:Int)+1)+1)).tmod (3:Int)/\(i64.wrap (i64.wrap ((0:Int)+1)+1)).tmod (3:Int)<(↑(3:Nat):Int),(0:Nat)<1,(0:Int)<=(i64.wrap (i64.wrap ((0:Int)+1)+2)).tmod (3:Int)/\(i64.wrap (i64.wrap ((0:Int)+1)+2)).tmod (3:Int)<(↑(3:Nat):Int),(0:Nat)<1,n<2^41,m<2^41,(0:Int)<=(i64.wrap (i64.wrap ((0:Int)+1)+2)).tmod (3:Int)/\(i64.wrap (i64.wrap ((0:Int)+1)+2)).tmod (3:Int)<(↑(3:Nat):Int),(0:Nat)<1,(0:Int)<=(i64.wrap (i64.wrap ((0:Int)+1)+1)).tmod (3:Int)/\(i64.wrap (i64.wrap ((0:Int)+1)+1)).tmod (3:Int)<(↑(3:Nat):Int),(0:Nat)<1,n<2^41,m<2^41,n+m<2^41,n+m<2^41,(0:Int)<=i64.wrap ((0:Int)+1)/\i64.wrap ((0:Int)+1)<(↑(3:Nat):Int),(0:Nat)<1] (ag.aj [(3:Int)≠(0:Int),(3:Int)≠(0:Int)] (ag.aj [(0:Int)<=(i64.wrap (i64.wrap (i64.wrap ((0:Int)+1)+1)+1)).tmod (3:Int)/\(i64.wrap (i64.wrap (i64.wrap ((0:Int)+1)+1)+1)).tmod (3:Int)<(↑(3:Nat):Int),(0:Nat)<1,(0:Int)<=(i64.wrap (i64.wrap (i64.wrap ((0:Int)+1)+1)+2)).tmod (3:Int)/\(i64.wrap (i64.wrap (i64.wrap ((0:Int)+1)+1)+2)).tmod (3:Int)<(↑(3:Nat):Int),(0:Nat)<1,n<2^41,m<2^41,(0:Int)<=(i64.wrap (i64.wrap (i64.wrap ((0:Int)+1)+1)+2)).tmod (3:Int)/\(i64.wrap (i64.wrap (i64.wrap ((0:Int)+1)+1)+2)).tmod (3:Int)<(↑(3:Nat):Int),(0:Nat)<1,(0:Int)<=(i64.wrap (i64.wrap (i64.wrap ((0:Int)+1)+1)+1)).tmod (3:Int)/\(i64.wrap (i64.wrap (i64.wrap ((0:Int)+1)+1)+1)).tmod (3:Int)<(↑(3:Nat):Int),(0:Nat)<1,n<2^41,m<2^41,n+m<2^41,n+m<2^41,(0:Int)<=i64.wrap (i64.wrap ((0:Int)+1)+1)/\i64.wrap (i64.wrap ((0:Int)+1)+1)<(↑(3:Nat):Int),(0:Nat)<1] (ag.aj [(0:Nat)<1,(0:Nat)<1] (ag.aj [(0:Nat)<1] (ag.leaf aq.ret [agg [rat (u.y*v.z-u.z*v.y) (n+m+(n+m)+1),rat (u.z*v.x-u.x*v.z) (n+m+(n+m)+1),rat (u.x*v.y-u.y*v.x) (n+m+(n+m)+1)]]))))))))):=ah
theorem Zi {q:Rat} {v:V3} {n m:Nat}:bF T ja [] 60 f19 (aF f19) ⟨aS 0 [rA q n,vA v m],[],0⟩=
  some (ag.aj [(0:Nat)<1,(0:Int)<=0/\(0:Int)<(↑(3:Nat):Int),(0:Nat)<1,n<2^41,m<2^41,(0:Int)<=0/\(0:Int)<(↑(3:Nat):Int),(0:Nat)<1] (ag.aj [(0:Nat)<1,(0:Int)<=i64.wrap ((0:Int)+1)/\i64.wrap ((0:Int)+1)<(↑(3:Nat):Int),(0:Nat)<1,n<2^41,m<2^41,(0:Int)<=i64.wrap ((0:Int)+1)/\i64.wrap ((0:Int)+1)<(↑(3:Nat):Int),(0:Nat)<1] (ag.aj [(0:Nat)<1,(0:Int)<=i64.wrap (i64.wrap ((0:Int)+1)+1)/\i64.wrap (i64.wrap ((0:Int)+1)+1)<(↑(3:Nat):Int),(0:Nat)<1,n<2^41,m<2^41,(0:Int)<=i64.wrap (i64.wrap ((0:Int)+1)+1)/\i64.wrap (i64.wrap ((0:Int)+1)+1)<(↑(3:Nat):Int),(0:Nat)<1] (ag.aj [(0:Nat)<1,(0:Nat)<1] (ag.aj [(0:Nat)<1] (ag.leaf aq.ret [agg [rat (q*v.x) (n+m),rat (q*v.y) (n+m),rat (q*v.z) (n+m)]])))))):=ah
theorem MJ (a b:V3×Nat) (K:Nat) (h:au (gd a b)):aN P 13 K [kV.make a,kV.make b] [] (aH (qe a b) []):=by
 obtain⟨u,n⟩:=a
 obtain⟨v,m⟩:=b
 obtain⟨h1,h2⟩:n<2^38/\m<2^38:=h
 refine bM hT jw hm Q6 rfl aW rfl 60 WM (fun _=>?_) K []
 simp only[ag.all,au,bz,bG]
 (repeat' with_reducible first|refine And.intro ?_ ?_|intro _)
 all_goals first|omega|decide|assumption|skip
 all_goals first|exact gZ (by simp_all [dY])|simp_all
theorem Zw (a b:V3×Nat) (K:Nat) (h:au (gd a b)):aN P 27 K [kV.make a,kV.make b] [] (aH (qN a b) []):=by
 obtain⟨u,n⟩:=a
 obtain⟨v,m⟩:=b
 obtain⟨h1,h2⟩:n<2^38/\m<2^38:=h
 refine bM hT jw hm agM rfl aW rfl 60 aaq (fun _=>?_) K []
 simp only[ag.all,au,Nat.max_self]
 (repeat' with_reducible refine And.intro ?_ ?_)
 all_goals first|omega|decide|exact bp.refl _
theorem acf (a b:V3×Nat) (K:Nat) (h:au (gd a b)):aN P 26 K [kV.make a,kV.make b] [] (aH (pB a b) []):=by
 obtain⟨u,n⟩:=a
 obtain⟨v,m⟩:=b
 obtain⟨h1,h2⟩:n<2^38/\m<2^38:=h
 refine bM hT jw hm X4 rfl aW rfl 60 U1 (fun _=>?_) K []
 simp only[ag.all,au,Nat.max_self]
 (repeat' with_reducible refine And.intro ?_ ?_)
 all_goals first|omega|decide|exact bp.refl _
theorem R4 (a:Rat×Nat) (b:V3×Nat) (K:Nat) (h:au (gd a b)):aN P 19 K [kR.make a,kV.make b] [] (aH (I8 a b) []):=by
 obtain⟨u,n⟩:=a
 obtain⟨v,m⟩:=b
 obtain⟨h1,h2⟩:n<2^38/\m<2^38:=h
 refine bM hT jw hm YE rfl aW rfl 60 Zi (fun _=>?_) K []
 simp only[ag.all,au,Nat.max_self]
 (repeat' with_reducible refine And.intro ?_ ?_)
 all_goals first|omega|decide|exact bp.refl _
theorem abI (a b:V3×Nat) (K:Nat) (h:au (gd a b)):aN P 98 K [kV.make a,kV.make b] [] (aH (uv a b) []):=by
 obtain⟨u,n⟩:=a
 obtain⟨v,m⟩:=b
 obtain⟨h1,h2⟩:n<2^38/\m<2^38:=h
 refine bM hT jw hm adH rfl aW rfl 60 aaG (fun _=>?_) K []
 simp only[ag.all,au,Nat.max_self]
 (repeat' with_reducible refine And.intro ?_ ?_)
 all_goals first|omega|decide|exact bC rfl (by simp only;omega)
theorem acn (a b:V3×Nat) (K:Nat) (h:au (gd a b)):aN P 141 K [kV.make a,kV.make b] [] (aH (sj a b) []):=by
 obtain⟨u,n⟩:=a
 obtain⟨v,m⟩:=b
 obtain⟨h1,h2⟩:n<2^38/\m<2^38:=h
 refine bM hT jw hm RU rfl aW rfl 60 aah (fun _=>?_) K []
 simp only[ag.all,au,Nat.max_self]
 (repeat' with_reducible refine And.intro ?_ ?_)
 all_goals first|omega|decide|exact bp.refl _
end Go.Am.B
