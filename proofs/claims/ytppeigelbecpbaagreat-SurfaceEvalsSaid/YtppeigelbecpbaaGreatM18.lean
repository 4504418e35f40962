/- brepkernellaw10.CurveHull. -/
import Derived.Test.YtppeigelbecpbaaGreatM17
import Derived.Test.YtppeigelbecpbaaGreatY51
set_option linter.unusedVariables false
namespace Go.Am.B
open Go Go.Am.N AV aa aj IntKind
theorem My {x v:Nat→Rat}:∀{n:Nat},(∀j,j<n→0≤x j)→(∀j,j<n→0≤v j)→0≤bU n fun j=>x j*v j
 |0,_,_=>Rat.le_refl
 |n+1,hx,hv=>by
  have h1:=My (n:=n) (fun j hj=>hx j (by omega)) (fun j hj=>hv j (by omega))
  have h2:=Rat.mul_nonneg (hx n (by omega)) (hv n (by omega))
  simp only[bU];grind
theorem Ib {x v:Nat→Rat}:∀{n:Nat},(∀j,j<n→0≤x j)→(∀j,j<n→0<v j)→0<bU n x→0<bU n fun j=>x j*v j
 |0,_,_,h=>absurd h (by simp only[bU];decide)
 |n+1,hx,hv,h=>by
  have h2:=Rat.mul_nonneg (hx n (by omega)) (Rat.le_of_lt (hv n (by omega)))
  by_cases h3:0<bU n x
  ·have h1:=Ib (n:=n) (fun j hj=>hx j (by omega)) (fun j hj=>hv j (by omega)) h3
   simp only[bU];grind
  ·have h1:=My (n:=n) (x:=x) (v:=v) (fun j hj=>hx j (by omega)) (fun j hj=>Rat.le_of_lt (hv j (by omega)))
   simp only[bU]at h
   have h4:=Rat.mul_pos (a:=x n) (b:=v n) (by grind) (hv n (by omega))
   simp only[bU];grind
end Go.Am.B
