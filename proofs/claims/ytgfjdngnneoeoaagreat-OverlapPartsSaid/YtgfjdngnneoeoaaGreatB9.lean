/- natural.Div: the arithmetic of long division. -/
import Derived.Test.YtgfjdngnneoeoaaGreatB8
set_option linter.unusedVariables false
namespace Go.Am.B
open Go Go.Am.N AV IntKind
theorem val_add {z:Nat->Nat} {a:Nat}:∀{b:Nat},val (a+b) z=val a z+val b (fun i=>z (a+i))*2^(32*a)
 |0=>by simp[val]
 |b+1=>by
  rw[<-Nat.add_assoc,val,val_add (b:=b),val,Nat.add_mul,Nat.mul_assoc,<-Nat.pow_add,Nat.add_assoc]
  congr 3
  congr 1
  omega
theorem val_zero {z:Nat->Nat} {n:Nat} (h:∀i,i<n->z i=0):val n z=0:=by
 rw[m7 (k:=0) aa fun i _ hi=>h i hi];rfl
theorem VX {z:Nat->Nat} {n:Nat} (h:val (n+1) z<2^(32*n)):z n=0:=by
 rw[val]at h
 rcases Nat.eq_zero_or_pos (z n)with h1|h1
 ·exact h1
 ·have:1*2^(32*n)<=z n*2^(32*n):=Nat.mul_le_mul_right _ h1
  omega
section knuth
variable {B P V W Vl Wl v1 v2 u3 top qt x rest:Nat}
theorem afQ (hP:0<P) (hB:0<B) (hV:V=(v1*B+v2)*P+Vl) (hW:W=(top*B+u3)*P+Wl) (h3:u3<B) (hl:Wl<P) (hv:0<v1) (hq:qt*V<=W):qt<=top/v1:=by
 rw[Nat.le_div_iff_mul_le hv]
 have h1:qt*v1*(B*P)<=W:=by
  refine Nat.le_trans ?_ hq
  rw[hV,Nat.mul_assoc]
  refine Nat.mul_le_mul_left _ ?_
  rw[<-Nat.mul_assoc]
  have:=Nat.mul_le_mul_right P (show v1*B<=v1*B+v2 by omega)
  omega
 have h2:W<(top+1)*(B*P):=by
  rw[hW,<-Nat.mul_assoc,Nat.add_mul top 1 B,Nat.one_mul]
  have:=Nat.mul_le_mul_right P (show top*B+u3+1<=top*B+B by omega)
  rw[Nat.add_mul _ 1,Nat.one_mul]at this
  omega
 have h3:=Nat.lt_of_mul_lt_mul_right (Nat.lt_of_le_of_lt h1 h2)
 omega
theorem PO (hV:V=(v1*B+v2)*P+Vl) (hW:W=(top*B+u3)*P+Wl) (hl:Wl<P) (ht:x*v1+rest=top) (hq:qt*V<=W) (h:rest*B+u3<x*v2):qt<x:=by
 have h1:W<x*V:=by
  have e1:(top*B+u3+1)*P<=(x*(v1*B+v2))*P:=by
   refine Nat.mul_le_mul_right _ ?_
   rw[<-ht,Nat.add_mul,Nat.mul_add,Nat.mul_assoc]
   omega
  have e2:(x*(v1*B+v2))*P<=x*V:=by
   rw[hV,Nat.mul_assoc]
   exact Nat.mul_le_mul_left _ aa
  rw[Nat.add_mul _ 1,Nat.one_mul]at e1
  omega
 exact Nat.lt_of_mul_lt_mul_right (Nat.lt_of_le_of_lt hq h1)
theorem agF (hq:qt*V<=W) (h:W<V*B):qt<B:=by
 rw[Nat.mul_comm V]at h
 exact Nat.lt_of_mul_lt_mul_right (Nat.lt_of_le_of_lt hq h)
theorem Qw (hP:0<P) (hB:0<B) (hV:V=(v1*B+v2)*P+Vl) (hW:W=(top*B+u3)*P+Wl) (h2:v2<B) (hl:Vl<P) (h:W<V*B):top<(v1+1)*B:=by
 have e1:V<=(v1+1)*(B*P):=by
  rw[hV,<-Nat.mul_assoc,Nat.add_mul v1 1 B,Nat.one_mul]
  have:=Nat.mul_le_mul_right P (show v1*B+v2+1<=v1*B+B by omega)
  rw[Nat.add_mul _ 1,Nat.one_mul]at this
  omega
 have e2:top*(B*P)<=W:=by
  rw[hW,<-Nat.mul_assoc]
  have:=Nat.mul_le_mul_right P (show top*B<=top*B+u3 by omega)
  omega
 have e3:top*(B*P)<(v1+1)*B*(B*P):=by
  have:=Nat.mul_le_mul_right B e1
  rw[show(v1+1)*(B*P)*B=(v1+1)*B*(B*P) by rw[Nat.mul_assoc,Nat.mul_comm (B*P),<-Nat.mul_assoc]]at this
  omega
 exact Nat.lt_of_mul_lt_mul_right e3
theorem Zt (ht:x*v1+rest=top) (h:top<(v1+1)*B) (hr:B<=rest):x<B:=by
 rw[Nat.add_mul,Nat.one_mul]at h
 have:x*v1<B*v1:=by rw[Nat.mul_comm B];omega
 exact Nat.lt_of_mul_lt_mul_right this
theorem Ys (hP:0<P) (hV:V=(v1*B+v2)*P+Vl) (hW:W=(top*B+u3)*P+Wl) (hv:0<v1) (hl:Vl<P) (hx:x<B) (ht:x*v1+rest=top) (h:x*v2<=rest*B+u3):x*V<W+V:=by
 have e1:x*(v1*B+v2)*P<=(top*B+u3)*P:=by
  refine Nat.mul_le_mul_right _ ?_
  rw[<-ht,Nat.add_mul,Nat.mul_add,Nat.mul_assoc]
  omega
 have e2:x*Vl<=x*P:=Nat.mul_le_mul_left _ aa
 have e3:x*P<B*P:=(Nat.mul_lt_mul_right hP).2 hx
 have e4:B*P<=V:=by
  rw[hV]
  have:1*B<=v1*B:=Nat.mul_le_mul_right _ hv
  have:=Nat.mul_le_mul_right P (show B<=v1*B+v2 by omega)
  omega
 have e5:x*V=x*(v1*B+v2)*P+x*Vl:=by rw[hV,Nat.mul_add,Nat.mul_assoc]
 omega
end knuth
theorem wz {R s k:Nat} (hs:s<32):aB (R/2^s) k=aB R k/2^s+aB R (k+1)%2^s*2^(32-s):=by
 unfold aB
 have hB:2^32=2^s*2^(32-s):=by rw[<-Nat.pow_add];congr 1;omega
 rw[Nat.div_div_eq_div_mul,Nat.mul_comm (2^s),<-Nat.div_div_eq_div_mul]
 have e:R/2^(32*(k+1))=R/2^(32*k)/2^32:=by rw[Nat.div_div_eq_div_mul,<-Nat.pow_add];congr 2
 rw[e]
 generalize R/2^(32*k)=X
 have hp:=Nat.two_pow_pos s
 have hp2:=Nat.two_pow_pos (32-s)
 have e1:X/2^32%2^32%2^s=X/2^32%2^s:=by
  rw[hB,Nat.mod_mul_right_mod]
 rw[e1]
 have e2:X=X%2^32+2^32*(X/2^32):=(Nat.mod_add_div X (2^32)).symm
 have e3:X/2^s=X%2^32/2^s+X/2^32*2^(32-s):=by
  have:X/2^s=(X%2^32+2^s*(2^(32-s)*(X/2^32)))/2^s:=by
   rw[<-Nat.mul_assoc,<-hB,<-e2]
  rw[this,Nat.add_mul_div_left _ _ hp,Nat.mul_comm (2^(32-s))]
 rw[e3]
 have h1:X%2^32/2^s<2^(32-s):=by
  rw[Nat.div_lt_iff_lt_mul hp,Nat.mul_comm,<-hB]
  exact Nat.mod_lt _ (Nat.two_pow_pos _)
 generalize X%2^32/2^s=a at*
 generalize X/2^32=b at*
 have h2:b%2^s*2^(32-s)+2^(32-s)<=2^32:=by
  rw[hB,<-Nat.succ_mul]
  exact Nat.mul_le_mul_right _ (Nat.mod_lt _ hp)
 have e4:b*2^(32-s)=b%2^s*2^(32-s)+2^32*(b/2^s):=by
  rw[hB,Nat.mul_assoc,Nat.mul_comm (2^(32-s)),<-Nat.mul_assoc,<-Nat.add_mul,Nat.mod_add_div]
 rw[e4,<-Nat.add_assoc,Nat.add_mul_mod_self_left]
 exact Nat.mod_eq_of_lt aa
theorem sL {a b:Nat} (ha:a<4294967296) (hb:b<4294967296):
  IntKind.u64.wrap ((BitVec.ofInt IntKind.u64.bits (IntKind.u64.wrap ((a:Int)*2^min (Int.toNat 32) IntKind.u64.bits))|||BitVec.ofInt IntKind.u64.bits (IntKind.u64.wrap (b:Int))).toNat:Int)=((a*4294967296+b:Nat):Int):=by
 have e1:IntKind.u64.wrap ((a:Int)*2^min (Int.toNat 32) IntKind.u64.bits)=((a*4294967296:Nat):Int):=by
  rw[wo,cw aa aa];omega
 have e2:IntKind.u64.wrap (b:Int)=((b:Nat):Int):=cw aa aa
 rw[e1,e2,s8 aa aa]
 congr 1
 exact qO (a:=a) (b:=b) (i:=32) hb
theorem TM {c:Nat} (hc:c<2^64):IntKind.u64.wrap ((BitVec.ofInt IntKind.u64.bits (c:Int)&&&BitVec.ofInt IntKind.u64.bits 4294967295).toNat:Int)=((c%4294967296:Nat):Int):=by
 have:=RS (a:=c) (b:=4294967295) hc (by decide)
 rw[show((4294967295:Nat):Int)=4294967295 from rfl]at this
 rw[this]
 congr 1
 exact Nat.and_two_pow_sub_one_eq_mod c 32
theorem Ml {u c b:Nat} (hu:u<4294967296) (hc:c<4294967296) (hb:b<=1):
  (IntKind.u64.wrap (IntKind.u64.wrap (IntKind.u64.wrap (u:Int)-(c:Int))-(b:Int))).fdiv (2^min (Int.toNat 63) IntKind.u64.bits)=((if c+b<=u then 0 else 1:Nat):Int)/\
   IntKind.u32.wrap (IntKind.u64.wrap (IntKind.u64.wrap (IntKind.u64.wrap (u:Int)-(c:Int))-(b:Int)))=(((u+4294967296-c-b)%4294967296:Nat):Int):=by
 rw[CK,oC,oC,oC,lC]
 constructor
 ·split<;>omega
 ·omega
theorem WB {c x y:Nat} (hc:c<4294967296) (hx:x<4294967296) (hy:y<4294967296):
  IntKind.u64.wrap ((c:Int)+IntKind.u64.wrap ((x:Int)*IntKind.u64.wrap (y:Int)))=((c+x*y:Nat):Int)/\c+x*y<2^64/\(c+x*y)/4294967296<4294967296:=by
 have h1:x*y<=(2^32-1)*(2^32-1):=Nat.mul_le_mul aa aa
 have e:(x:Int)*(y:Int)=((x*y:Nat):Int):=by simp
 rw[cw (x:=(y:Int)) aa aa,e]
 generalize x*y=p at*
 refine⟨?_,aa,aa⟩
 rw[cw (x:=(p:Int)) aa aa,cw aa aa]
 omega
theorem ahb {vn vo vV x yi ui b c B b':Nat} (hc:(c+x*yi)%4294967296<=4294967295) (hb:b<=1) (hu:ui<4294967296) (hb':b'=if(c+x*yi)%4294967296+b<=ui then 0 else 1) (h:vn+x*vV=vo+(c+b)*B):
  vn+(ui+4294967296-(c+x*yi)%4294967296-b)%4294967296*B+x*(vV+yi*B)=vo+ui*B+((c+x*yi)/4294967296+b')*(4294967296*B):=by
 have h1:=Nat.div_add_mod (c+x*yi) 4294967296
 generalize (c+x*yi)/4294967296=h at*
 generalize hr:(c+x*yi)%4294967296=r at*
 have e:(ui+4294967296-r-b)%4294967296+r+b=ui+4294967296*b':=by
  subst hb'
  split<;>omega
 generalize (ui+4294967296-r-b)%4294967296=un at*
 have e2:(un+r+b)*B=(ui+4294967296*b')*B:=by rw[e]
 have e3:(4294967296*h+r)*B=(c+x*yi)*B:=by rw[h1]
 grind
end Go.Am.B
