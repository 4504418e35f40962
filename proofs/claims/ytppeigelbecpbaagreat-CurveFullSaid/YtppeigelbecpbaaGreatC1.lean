/- Plain laws of knots and B-spline functions: no program in sight. -/
import Init
set_option linter.unusedVariables false
namespace Go.Am.B
def kz (n:Nat) (f:Nat→Rat):Rat:=match n with
 |0=>0
 |n+1=>kz n f+f n
structure Kn (n p:Nat) (k:Nat→Rat):Prop where
 p1:1≤p
 len:2*p+2≤n
 sorted:∀i,i+1<n→k i≤k (i+1)
 first:∀i,i≤p→k i=k 0
 last:∀i,n≤i+p+1→i<n→k i=k (n-1)
 mult:∀i,1≤i→i+p+1<n→k i<k (i+p)
theorem mF {n:Nat} {k:Nat→Rat} (h:∀i,i+1<n→k i≤k (i+1)) {i:Nat}:∀{j:Nat},i≤j→j<n→k i≤k j
 |0,hij,_=>by
    have:i=0:=by omega
    subst this;exact Rat.le_refl
 |j+1,hij,hj=>by
  by_cases he:i=j+1
  ·subst he;exact Rat.le_refl
  ·exact Rat.le_trans (mF h (j:=j) (by omega) (by omega)) (h j hj)
theorem Kn.mono {n p:Nat} {k:Nat→Rat} (h:Kn n p k) {i j:Nat} (hij:i≤j) (hj:j<n):k i≤k j:=mF h.sorted hij hj
def fr (a b t:Rat):Rat:=(t-a)/(b-a)
def vB (k:Nat→Rat) (i:Nat) (t:Rat):Nat→Nat→Rat
 |0,j=>if j=0 then 1 else 0
 |d+1,j=>(if j=0 then 0 else fr (k (i-d+(j-1))) (k (i-d+(j-1)+(d+1))) t*vB k i t d (j-1))+
   (if j≤d then(1-fr (k (i-d+j)) (k (i-d+j+(d+1))) t)*vB k i t d j else 0)
structure At (n:Nat) (k:Nat→Rat) (i:Nat):Prop where
 lt:i+1<n
 sorted:∀i,i+1<n→k i≤k (i+1)
 wide:k i<k (i+1)
end Go.Am.B
