/- Plain laws of knots: how a list of valid knots is made, one knot after another. -/
import Derived.Test.YtppeigelbecpbaaGreatC3
set_option linter.unusedVariables false
namespace Go.Am.B
structure KG (p j:Nat) (k:Nat→Rat) (t:Rat):Prop where
 p1:1≤p
 first:∀i,i≤p→k i=k 0
 top:k (p+j)=t
 sorted:∀i,i<p+j→k i≤k (i+1)
 mult:∀i,1≤i→i≤j→k i<k (i+p)
 half:∀i,i≤p+j→∃z:Int,k i=(z:Rat)/2∧-4≤z∧z≤2+6*(j:Int)
def ov (k:Nat→Rat) (m:Nat) (t:Rat):Nat→Rat:=fun i=>if i=m then t else k i
theorem uV {k:Nat→Rat} {m:Nat} {t:Rat}:ov k m t m=t:=if_pos rfl
theorem jI {k:Nat→Rat} {m i:Nat} {t:Rat} (h:i≠m):ov k m t i=k i:=if_neg h
theorem KG.start {p:Nat} (hp:1≤p) {z:Int} (h1:-2≤z) (h2:z≤1):KG p 0 (fun _=>(z:Rat)) (z:Rat) where
 p1:=hp
 first:=fun _ _=>rfl
 top:=rfl
 sorted:=fun _ _=>Rat.le_refl
 mult:=fun i h1 h2=>by omega
 half:=fun i _=>⟨2*z,by
  have:((2*z:Int):Rat)=2*(z:Rat):=by simp
  rw[this];grind,by omega,by omega⟩
theorem KG.le_top {p j:Nat} {k:Nat→Rat} {t:Rat} (h:KG p j k t) {i:Nat} (hi:i≤p+j):k i≤t:=by
 rw[←h.top]
 exact mF (n:=p+j+1) (fun i hi=>h.sorted i (by omega)) hi (by omega)
theorem KG.next {p j:Nat} {k:Nat→Rat} {t t':Rat} (h:KG p j k t) (hc:(t<t'∧∃z:Int,t'=t+(z:Rat)/2∧z≤6)∨(t'=t∧1≤j∧t≠k (j+1))):KG p (j+1) (ov k (p+1+j) t') t':=by
 have hle:t≤t':=by
  rcases hc with⟨h1,_⟩|⟨h1,_⟩
  ·grind
  ·rw[h1];exact Rat.le_refl
 have hp:=h.p1
 refine⟨hp,fun i hi=>?_,?_,fun i hi=>?_,fun i h1 h2=>?_,fun i hi=>?_⟩
 ·rw[jI (by omega),jI (by omega)];exact h.first i hi
 ·rw[show p+(j+1)=p+1+j by omega,uV]
 ·by_cases he:i+1=p+1+j
  ·rw[he,uV,jI (by omega),show i=p+j by omega,h.top];exact hle
  ·rw[jI (by omega),jI he];exact h.sorted i (by omega)
 ·by_cases he:i=j+1
  ·subst he
   rw[show j+1+p=p+1+j by omega,uV,jI (by omega)]
   have:=h.le_top (i:=j+1) (by omega)
   rcases hc with⟨h3,_⟩|⟨h3,h4,h5⟩
   ·grind
   ·rw[h3];grind
  ·rw[jI (by omega),jI (by omega)];exact h.mult i h1 (by omega)
 ·by_cases he:i=p+1+j
  ·subst he
   rw[uV]
   obtain⟨z,e1,e2,e3⟩:=h.half (p+j) (by omega)
   rw[h.top]at e1
   rcases hc with⟨h3,y,e4,e5⟩|⟨h3,_⟩
   ·refine⟨z+y,?_,?_,by omega⟩
    ·rw[e4,e1]
     have:((z+y:Int):Rat)=(z:Rat)+(y:Rat):=by simp
     rw[this];grind
    ·have hy:0<y:=by
      rcases Int.lt_or_le 0 y with h6|h6
      ·exact h6
      ·exfalso
       have:((y:Int):Rat)≤0:=Rat.intCast_nonpos.2 h6
       grind
     omega
   ·exact⟨z,by rw[h3,e1],e2,by omega⟩
  ·rw[jI he]
   obtain⟨z,e1,e2,e3⟩:=h.half i (by omega)
   exact⟨z,e1,e2,by omega⟩
def xb (p j:Nat) (k:Nat→Rat) (t:Rat):Nat→Rat:=fun i=>if i<p+1+j then k i else t+1
theorem KG.done {p j:Nat} {k:Nat→Rat} {t:Rat} (h:KG p j k t):Kn (2*p+2+j) p (xb p j k t):=by
 have hp:=h.p1
 have lo:∀{i},i<p+1+j→xb p j k t i=k i:=fun hi=>if_pos hi
 have hi':∀{i},p+1+j≤i→xb p j k t i=t+1:=fun hi=>if_neg (by omega)
 refine⟨hp,by omega,fun i hi=>?_,fun i hi=>?_,fun i h1 h2=>?_,fun i h1 h2=>?_⟩
 ·by_cases h1:i+1<p+1+j
  ·rw[lo h1,lo (by omega)];exact h.sorted i (by omega)
  ·rw[hi' (i:=i+1) (by omega)]
   by_cases h2:i<p+1+j
   ·rw[lo h2]
    have:=h.le_top (i:=i) (by omega)
    grind
   ·rw[hi' (by omega)];exact Rat.le_refl
 ·rw[lo (i:=i) (by omega),lo (i:=0) (by omega)];exact h.first i hi
 ·rw[hi' (i:=i) (by omega),hi' (i:=2*p+2+j-1) (by omega)]
 ·by_cases h3:i+p<p+1+j
  ·rw[lo (by omega),lo h3];exact h.mult i h1 (by omega)
  ·rw[hi' (i:=i+p) (by omega),lo (i:=i) (by omega)]
   have:=h.le_top (i:=i) (by omega)
   grind
end Go.Am.B
