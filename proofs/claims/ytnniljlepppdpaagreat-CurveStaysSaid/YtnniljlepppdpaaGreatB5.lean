/- bits.Len32, bits.LeadingZeros32, natural.Bits, slices.Clone, slices.Equal. -/
import Derived.Test.YtnniljlepppdpaaGreatB4
set_option linter.unusedVariables false
namespace Go.Am.B
open Go Go.Am.N AV
theorem YU:aR P zA Bo (az Bo):=aS Proofs.Tryz.func254 ag ag ag
theorem aex:aR P BJ Dq (az Dq):=aS Proofs.Tryz.func288 ag ag ag
theorem adB:aR P yJ Ej (az Ej):=aS Proofs.Tryz.func195 ag ag ag
abbrev mQ:ByteArray:=⟨((List.range 256).map fun i=>UInt8.ofNat (bM i)).toArray⟩
def K0:Spec:=bU fun l=>match l with
 |[.int .u32 x]=>some (aK (.int .i64 (bM x.toNat:Nat)) [0<=x/\x<2^32])
 |_=>none
theorem adw {x:Nat}:bS T [] [4,8] 30 Bo (az Bo) ⟨aP 0 [.int .u32 x],[],0⟩=
  some (ah.fork (decide ((↑x:Int)>=(65536:Int))) (ah.aj [(0:Int)<=(16:Int)] (ah.fork (decide ((↑x:Int).fdiv ((2:Int)^min (Int.toNat (16:Int)) IntKind.u32.bits)>=(256:Int))) (ah.aj [(0:Int)<=(8:Int)] (ah.aj [(0:Int)<=IntKind.u8.wrap (((↑x:Int).fdiv ((2:Int)^min (Int.toNat (16:Int)) IntKind.u32.bits)).fdiv ((2:Int)^min (Int.toNat (8:Int)) IntKind.u32.bits))/\IntKind.u8.wrap (((↑x:Int).fdiv ((2:Int)^min (Int.toNat (16:Int)) IntKind.u32.bits)).fdiv ((2:Int)^min (Int.toNat (8:Int)) IntKind.u32.bits))<(↑mQ.size:Int)] (ah.leaf aq.ret [int IntKind.i64 (IntKind.i64.wrap (IntKind.i64.wrap ((16:Int)+(8:Int))+IntKind.i64.wrap (↑(oo mQ (IntKind.u8.wrap (((↑x:Int).fdiv ((2:Int)^min (Int.toNat (16:Int)) IntKind.u32.bits)).fdiv ((2:Int)^min (Int.toNat (8:Int)) IntKind.u32.bits))).toNat):Int)))]))) (ah.aj [(0:Int)<=IntKind.u8.wrap ((↑x:Int).fdiv ((2:Int)^min (Int.toNat (16:Int)) IntKind.u32.bits))/\IntKind.u8.wrap ((↑x:Int).fdiv ((2:Int)^min (Int.toNat (16:Int)) IntKind.u32.bits))<(↑mQ.size:Int)] (ah.leaf aq.ret [int IntKind.i64 (IntKind.i64.wrap ((16:Int)+IntKind.i64.wrap (↑(oo mQ (IntKind.u8.wrap ((↑x:Int).fdiv ((2:Int)^min (Int.toNat (16:Int)) IntKind.u32.bits))).toNat):Int)))])))) (ah.fork (decide ((↑x:Int)>=(256:Int))) (ah.aj [(0:Int)<=(8:Int)] (ah.aj [(0:Int)<=IntKind.u8.wrap ((↑x:Int).fdiv ((2:Int)^min (Int.toNat (8:Int)) IntKind.u32.bits))/\IntKind.u8.wrap ((↑x:Int).fdiv ((2:Int)^min (Int.toNat (8:Int)) IntKind.u32.bits))<(↑mQ.size:Int)] (ah.leaf aq.ret [int IntKind.i64 (IntKind.i64.wrap (IntKind.i64.wrap ((0:Int)+(8:Int))+IntKind.i64.wrap (↑(oo mQ (IntKind.u8.wrap ((↑x:Int).fdiv ((2:Int)^min (Int.toNat (8:Int)) IntKind.u32.bits))).toNat):Int)))]))) (ah.aj [(0:Int)<=IntKind.u8.wrap (↑x:Int)/\IntKind.u8.wrap (↑x:Int)<(↑mQ.size:Int)] (ah.leaf aq.ret [int IntKind.i64 (IntKind.i64.wrap ((0:Int)+IntKind.i64.wrap (↑(oo mQ (IntKind.u8.wrap (↑x:Int)).toNat):Int)))])))):=ag
theorem A2 {i:Nat} (h:i<256):oo mQ i=bM i:=by
 have h8:bM i<=8:=jz.2 aa
 unfold oo
 have:mQ.data[i]?=some (UInt8.ofNat (bM i)):=by simp[mQ,h]
 rw[this]
 simp only[UInt8.toNat_ofNat']
 omega
theorem aaX:mQ.size=256:=by
 show(List.map _ (List.range 256)).toArray.size=256
 simp
theorem Ax {x:Nat} {s:Int} (hs:0<=s) (h:s<32):(x:Int).fdiv (2^min s.toNat IntKind.u32.bits)=((x/2^s.toNat:Nat):Int):=by
 have:IntKind.u32.bits=32:=rfl
 rw[this,Nat.min_eq_left aa,Int.fdiv_eq_ediv_of_nonneg _ (by exact Int.le_of_lt (Int.pow_pos (by decide)))]
 simp
theorem Bx {x:Nat} (h:x<256):IntKind.u8.wrap (x:Int)=x:=by
 simp[IntKind.wrap,IntKind.bits,IntKind.signed];omega
theorem acW {x:Nat} (hx:x<2^32) (K:Nat) (pre:aF):aD P zA K [.int .u32 x] pre (aK (.int .i64 (bM x:Nat)) []):=by
 refine bY hT bC hm YU rfl aW rfl 30 adw (fun _=>?_) K pre
 have b8:∀i:Nat,i<256->bM i<=8:=fun i h=>jz.2 aa
 rw[Ax (by decide) (by decide),Ax (by decide) (by decide),Ax (by decide) (by decide)]
 simp only[ah.all,aA,bh,bz,aaX,show Int.toNat 16=16 from rfl,show Int.toNat 8=8 from rfl]
 refine⟨fun h1=>⟨aa,fun h2=>⟨aa,?_⟩,fun h2=>?_⟩,fun h1=>⟨fun h2=>⟨aa,?_⟩,fun h2=>?_⟩⟩
 ·have h3:x/2^16/2^8<256:=aa
  have e:bM x=16+(8+bM (x/2^16/2^8)):=by rw[vJ (k:=16) aa,vJ (x:=x/2^16) (k:=8) aa]
  rw[Bx h3]
  refine⟨aa,bN ?_⟩
  rw[aZ,A2 h3,e]
  have:=b8 _ h3
  rw[wrap_i64 (x:=((bM (x/2^16/2^8):Nat):Int)) aa aa,wrap_i64 (x:=(16:Int)+8) aa aa,wrap_i64 aa aa]
  omega
 ·have h3:x/2^16<256:=aa
  have e:bM x=16+bM (x/2^16):=by rw[vJ (k:=16) aa]
  rw[Bx h3]
  refine⟨aa,bN ?_⟩
  rw[aZ,A2 h3,e]
  have:=b8 _ h3
  rw[wrap_i64 (x:=((bM (x/2^16):Nat):Int)) aa aa,wrap_i64 aa aa]
  omega
 ·have h3:x/2^8<256:=aa
  have e:bM x=8+bM (x/2^8):=by rw[vJ (k:=8) aa]
  rw[Bx h3]
  refine⟨aa,bN ?_⟩
  rw[aZ,A2 h3,e]
  have:=b8 _ h3
  rw[wrap_i64 (x:=((bM (x/2^8):Nat):Int)) aa aa,wrap_i64 (x:=(0:Int)+8) aa aa,wrap_i64 aa aa]
  omega
 ·have h3:x<256:=aa
  rw[Bx h3]
  refine⟨aa,bN ?_⟩
  rw[aZ,A2 h3]
  have:=b8 _ h3
  rw[wrap_i64 (x:=((bM x:Nat):Int)) aa aa,wrap_i64 aa aa]
  omega
theorem RT:∀K args pre r,K0 K args pre=some r->aD P zA K args pre r:=by
 refine cB fun K args r hk hs _=>?_
 split at hs
 ·rename_i x
  simp only[ax]at hs
  subst hs
  intro need
  obtain⟨h1,h2⟩:0<=x/\x<2^32:=need
  obtain⟨y,rfl⟩:=Int.eq_ofNat_of_zero_le h1
  exact acW (x:=y) aa K [] trivial
 ·simp at hs
theorem aeb {x:Nat}:bS T [(zA,K0)] [] 30 Dq (az Dq) ⟨aP 0 [.int .u32 x],[],0⟩=
  some (ah.aj [(0:Int)<=(↑x:Int)/\(↑x:Int)<(2:Int)^32] (ah.leaf aq.ret [int IntKind.i64 (IntKind.i64.wrap ((32:Int)-(↑(bM (↑x:Int).toNat):Int)))])):=ag
theorem ac9 {n:Nat} {z:Nat->Nat}:bS T ((zA,K0)::G1) [7] 30 Ej (az Ej) ⟨aP 0 [.ak 1 n (aB z)],[],0⟩=
  some (ah.aj [dZ n (aB z),n<2^62] (ah.fork ((↑(nl (val n fun(i:Nat)=>numOf (aB z i))):Int)==(0:Int)) (ah.leaf aq.ret [int IntKind.i64 (0:Int)]) (ah.aj [(0:Int)<=IntKind.i64.wrap ((↑(nl (val n fun(i:Nat)=>numOf (aB z i))):Int)-(1:Int))/\(IntKind.i64.wrap ((↑(nl (val n fun(i:Nat)=>numOf (aB z i))):Int)-(1:Int))).toNat<nl (val n fun(i:Nat)=>numOf (aB z i)),(0:Int)<=(↑(aC (val n fun(i:Nat)=>numOf (aB z i)) (IntKind.i64.wrap ((↑(nl (val n fun(i:Nat)=>numOf (aB z i))):Int)-(1:Int))).toNat):Int)/\(↑(aC (val n fun(i:Nat)=>numOf (aB z i)) (IntKind.i64.wrap ((↑(nl (val n fun(i:Nat)=>numOf (aB z i))):Int)-(1:Int))).toNat):Int)<(2:Int)^32] (ah.leaf aq.ret [int IntKind.i64 (IntKind.i64.wrap (IntKind.i64.wrap ((32:Int)*IntKind.i64.wrap ((↑(nl (val n fun(i:Nat)=>numOf (aB z i))):Int)-(1:Int)))+(↑(bM (↑(aC (val n fun(i:Nat)=>numOf (aB z i)) (IntKind.i64.wrap ((↑(nl (val n fun(i:Nat)=>numOf (aB z i))):Int)-(1:Int))).toNat):Int).toNat):Int)))])))):=ag
theorem YV {x:Nat} (hx:x<2^32) (K:Nat) (pre:aF):aD P BJ K [.int .u32 x] pre (aK (.int .i64 (32-bM x:Nat)) []):=by
 refine bY hT (aH RT bC) hm aex rfl aW rfl 30 aeb (fun _=>?_) K pre
 have h1:bM x<=32:=jz.2 hx
 simp only[ah.all,aA]
 refine⟨aa,bN ?_⟩
 rw[aZ,wrap_i64 aa aa];omega
theorem ajy {n:Nat} {z:Nat->Nat} (hz:∀i,i<n->z i<2^32) (hn:n<2^40) (K:Nat) (pre:aF):aD P yJ K [.ak 1 n (aB z)] pre (aK (.int .i64 (bM (val n z):Nat)) []):=by
 refine bY hT (aH RT gT) hm adB rfl aW rfl 30 ac9 (fun _=>?_) K pre
 have hnl:nl (val n z)<=n:=dB.2 (gh hz)
 simp only[ah.all,aA,j6,beq_iff_eq,beq_eq_false_iff_ne,ne_eq]
 generalize val n z=N at*
 refine⟨⟨gE hz,aa⟩,fun h=>bN ?_,fun h=>?_⟩
 ·have:N=0:=by
   rcases Nat.eq_zero_or_pos N with h1|h1
   ·exact h1
   ·have:=gG.2 (show N≠0 by omega);omega
  simp[this,bM]
 ·have h0:N≠0:=gG.1 aa
  have hp:=gG.2 h0
  have e:IntKind.i64.wrap ((nl N:Int)-1)=((nl N-1:Nat):Int):=by rw[wrap_i64 aa aa];omega
  rw[e,aZ,aZ]
  have hl:=dK (N:=N) (i:=nl N-1)
  have hb:=Sh h0
  have h32:bM (aC N (nl N-1))<=32:=jz.2 hl
  refine⟨⟨aa,aa⟩,bN ?_⟩
  rw[hb,wrap_i64 (x:=32*((nl N-1:Nat):Int)) aa aa,wrap_i64 aa aa]
  omega
def QU:Spec:=bU fun l=>match l with
 |[.int .u32 x]=>some (aK (.int .i64 (32-bM x.toNat:Nat)) [0<=x/\x<2^32])
 |_=>none
theorem ajP:∀K args pre r,QU K args pre=some r->aD P BJ K args pre r:=by
 refine cB fun K args r hk hs _=>?_
 split at hs
 ·rename_i x
  simp only[ax]at hs
  subst hs
  intro need
  obtain⟨h1,h2⟩:0<=x/\x<2^32:=need
  obtain⟨y,rfl⟩:=Int.eq_ofNat_of_zero_le h1
  exact YV (x:=y) aa K [] trivial
 ·simp at hs
def HT (N n:Nat):dw:=aK (.int .i64 (bM N:Nat)) [n<2^40]
theorem SG:∀K args pre r,bU (mm HT) K args pre=some r->aD P yJ K args pre r:=
 cB (vW fun _ _ K hz need=>ajy hz need K [])
end Go.Am.B
