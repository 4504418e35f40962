/- brepkernelmade: Mod, Light, Roll, Part, Next, number, Number, Point, Map. -/
import Derived.Test.YtppeigelbecpbaaGreatB31
import Derived.Test.YtppeigelbecpbaaGreatZ2
set_option linter.unusedVariables false
namespace Go.Am.B
open Go Go.Am.N AV
theorem R7:aN P vu uC (au uC):=aO VY (by kernel_rfl) (by kernel_rfl) (by kernel_rfl)
theorem QO {x m:Int}:bu T [] [9] 60 uC (au uC) ⟨aM 0 [.int .i64 x,.int .i64 m],[],0⟩=
  some (aa.ag [m≠(0:Int)] (aa.fork (decide (x.tmod m<(0:Int))) (aa.leaf ah.ret [int IntKind.i64 (IntKind.i64.wrap (x.tmod m+m))]) (aa.leaf ah.ret [int IntKind.i64 (x.tmod m)]))):=by kernel_rfl
theorem KZ {x m:Int} (h1:0<m) (h2:m<2^62) (K:Nat):aB P vu K [.int .i64 x,.int .i64 m] [] (aG (.int .i64 (x%m)) []):=by
 refine bE hT br hm R7 rfl (of_decide_eq_true (by kernel_rfl)) rfl 60 QO (fun _=>?_) K []
 simp only[aa.all,az,decide_eq_true_eq,decide_eq_false_iff_not]
 have h3:=Int.tmod_lt_of_pos x h1
 have h4:=Int.lt_tmod_of_pos x h1
 have h5:=Int.emod_nonneg x (show m≠0 by omega)
 have h6:=Int.emod_lt_of_pos x h1
 have h7:=Int.tmod_eq_emod (a:=x) (b:=m)
 have h8:∀{v:Int},v<0→v=x%m-((if 0≤x∨m∣x then 0 else m.natAbs:Nat):Int)→v+m=x%m:=fun {v} g1 g2=>by
  by_cases h:0≤x∨m∣x
  ·rw[if_pos h]at g2;omega
  ·rw[if_neg h]at g2;omega
 have h9:∀{v:Int},¬v<0→v=x%m-((if 0≤x∨m∣x then 0 else m.natAbs:Nat):Int)→v=x%m:=fun {v} g1 g2=>by
  by_cases h:0≤x∨m∣x
  ·rw[if_pos h]at g2;omega
  ·rw[if_neg h]at g2;omega
 refine⟨by omega,fun hb=>bh ?_,fun hb=>bh (h9 hb h7)⟩
 rw[wrap_i64 (by omega) (by omega)]
 exact h8 hb h7
def HL:Spec:=bq fun l=>match l with
 |[.int .i64 x,.int .i64 m]=>some (aG (.int .i64 (x%m)) [0<m,m<2^62])
 |_=>none
theorem Ok:∀K args pre r,HL K args pre=some r→aB P vu K args pre r:=by
 refine bL fun K args r hk hs _=>?_
 split at hs
 ·simp only[Option.some.injEq]at hs
  subst hs
  exact fun need=>KZ need.1 need.2 K trivial
 ·simp at hs
def intOf:AV→Int
 |.int _ n=>n
 |_=>0
def OJ (n:Nat) (f:Nat→AV) (a m:Int):Int:=if(n:Int)≤a then 0 else intOf (f a.toNat)%m
def ke (n:Nat) (a:Int):Int:=if(n:Int)≤a then a else a+1
structure oz (n:Nat) (f:Nat→AV) (a:Int):Prop where
 ints:∀i,f i=.int .i64 (intOf (f i))
 lo:0≤a
 hi:a≤n
 len:n<2^62
theorem oz.next {n:Nat} {f:Nat→AV} {a:Int} (h:oz n f a):oz n f (ke n a):=
 ⟨h.ints,by have:=h.lo;unfold ke;split<;>omega,by have:=h.hi;unfold ke;split<;>omega,h.len⟩
end Go.Am.B
