/- brepkernelmade: Mod, Light, Roll, Part, Next, number, Number, Point, Map. -/
import Derived.Test.YtolopdkjjlfgjaaGreatB31
import Derived.Test.YtolopdkjjlfgjaaGreatZ2
set_option linter.unusedVariables false
namespace Go.Am.B
open Go Go.Am.N AV Proofs.Tryz
theorem W6:bC 45 f45:=bD func45
theorem Wn {x m:Int}:cy T [] [9] 60 f45 (aJ f45) ⟨bf 0 [.int .i64 x,.int .i64 m],[],0⟩=
  some (af.aj [m≠(0:Int)] (af.fork (decide (x.tmod m<0)) (af.leaf au.ret [int .i64 (IntKind.i64.wrap (x.tmod m+m))]) (af.leaf au.ret [int .i64 (x.tmod m)]))):=ah
theorem YE {x m:Int} (h1:0<m) (h2:m<2^62) (K:Nat):aY P 45 K [.int .i64 x,.int .i64 m] [] (aT (.int .i64 (x%m)) []):=by
 refine cB hT cK hm W6 rfl br rfl 60 Wn (fun _=>?_) K []
 simp only[af.all,aF,bI,bO]
 have h3:=Int.tmod_lt_of_pos x h1
 have h4:=Int.lt_tmod_of_pos x h1
 have h5:=Int.emod_nonneg x (show m≠0 by omega)
 have h6:=Int.emod_lt_of_pos x h1
 have h7:=Int.tmod_eq_emod (a:=x) (b:=m)
 have h8:∀{v:Int},v<0->v=x%m-((if 0<=x\/m∣x then 0 else m.natAbs:Nat):Int)->v+m=x%m:=fun {v} g1 g2=>by
  by_cases h:0<=x\/m∣x
  ·rw[if_pos h]at g2;omega
  ·rw[if_neg h]at g2;omega
 have h9:∀{v:Int},¬v<0->v=x%m-((if 0<=x\/m∣x then 0 else m.natAbs:Nat):Int)->v=x%m:=fun {v} g1 g2=>by
  by_cases h:0<=x\/m∣x
  ·rw[if_pos h]at g2;omega
  ·rw[if_neg h]at g2;omega
 refine⟨aa,fun hb=>cu ?_,fun hb=>cu (h9 hb h7)⟩
 rw[wrap_i64 aa aa]
 exact h8 hb h7
def GL:Spec:=cw fun l=>match l with
 |[.int .i64 x,.int .i64 m]=>some (aT (.int .i64 (x%m)) [0<m,m<2^62])
 |_=>none
theorem Ma:bF P GL 45:=by
 refine cY fun K args r hk hs _=>?_
 split at hs
 ·simp only[aB]at hs
  subst hs
  exact fun need=>YE need.1 need.2 K trivial
 ·simp at hs
end Go.Am.B
