/- brepkernelmade: Part. -/
import Derived.Test.YtppeigelbecpbaaGreatB33
set_option linter.unusedVariables false
namespace Go.Am.B
open Go Go.Am.N AV
theorem abd:aO P Bq yC (aq yC):=aP Q3 (by kernel_rfl) (by kernel_rfl) (by kernel_rfl)
def KT:aS:=[(o9,zy),(lY,qg)]
theorem YI {d:Int}:bu T KT [] 60 yC (aq yC) ⟨aM 0 [.int .i64 d],[],0⟩=
  some (aa.af [(17:Int)≠(0:Int),(0:Int)<(12:Int),(12:Int)<(2:Int)^62] (aa.af [(0:Int)<IntKind.i64.wrap (IntKind.i64.wrap ((1:Int)+IntKind.i64.wrap (d.tdiv (17:Int))%(12:Int))+(1:Int)),IntKind.i64.wrap (IntKind.i64.wrap ((1:Int)+IntKind.i64.wrap (d.tdiv (17:Int))%(12:Int))+(1:Int))<(2:Int)^62,-(2:Int)^63≤d%IntKind.i64.wrap (IntKind.i64.wrap ((1:Int)+IntKind.i64.wrap (d.tdiv (17:Int))%(12:Int))+(1:Int)),d%IntKind.i64.wrap (IntKind.i64.wrap ((1:Int)+IntKind.i64.wrap (d.tdiv (17:Int))%(12:Int))+(1:Int))<(2:Int)^63,-(2:Int)^63≤IntKind.i64.wrap ((1:Int)+IntKind.i64.wrap (d.tdiv (17:Int))%(12:Int)),IntKind.i64.wrap ((1:Int)+IntKind.i64.wrap (d.tdiv (17:Int))%(12:Int))<(2:Int)^63,(0:Nat)<1] (aa.af [(0:Nat)<1] (aa.leaf aj.ret [rat ((↑(d%IntKind.i64.wrap (IntKind.i64.wrap ((1:Int)+IntKind.i64.wrap (d.tdiv (17:Int))%(12:Int))+(1:Int))):Rat)/(↑(IntKind.i64.wrap ((1:Int)+IntKind.i64.wrap (d.tdiv (17:Int))%(12:Int))):Rat)) 64])))):=by kernel_rfl
def Dl (d:Int):Int:=1+IntKind.i64.wrap (d.tdiv 17)%12
def Bn (d:Int):Rat:=((d%(Dl d+1):Int):Rat)/((Dl d:Int):Rat)
def NH:Spec:=bA fun l=>match l with
 |[.int .i64 d]=>some (aF (.rat (Bn d) 64) [])
 |_=>none
theorem agi:∀K args pre r,NH K args pre=some r→az P Bq K args pre r:=by
 refine bS fun K args r hk hs _=>?_
 split at hs
 ·rename_i d
  simp only[Option.some.injEq]at hs
  subst hs
  refine bC hT (aD BF (aD r9 aX)) hm abd rfl (of_decide_eq_true (by kernel_rfl)) rfl 60 YI (fun _=>?_) K []
  unfold Bn Dl
  generalize IntKind.i64.wrap (d.tdiv 17)=w at*
  have w1:=Int.emod_nonneg w (show(12:Int)≠0 by omega)
  have w2:=Int.emod_lt_of_pos w (show(0:Int)<12 by omega)
  generalize w%12=x at*
  have e1:IntKind.i64.wrap (1+x)=1+x:=wrap_i64 (by omega) (by omega)
  have e2:IntKind.i64.wrap (1+x+1)=1+x+1:=wrap_i64 (by omega) (by omega)
  rw[e1,e2]
  have v1:=Int.emod_nonneg d (show 1+x+1≠0 by omega)
  have v2:=Int.emod_lt_of_pos d (show 0<1+x+1 by omega)
  generalize d%(1+x+1)=y at*
  simp only[aa.all,ax]
  exact⟨⟨by omega,by omega,by omega⟩,⟨by omega,by omega,by omega,by omega,by omega,by omega,by omega⟩,by omega,.refl _⟩
 ·simp at hs
end Go.Am.B
