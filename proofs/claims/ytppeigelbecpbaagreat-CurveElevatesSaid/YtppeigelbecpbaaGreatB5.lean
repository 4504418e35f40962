/- bits. -/
import Derived.Test.YtppeigelbecpbaaGreatB4
set_option linter.unusedVariables false
namespace Go.Am.B
open Go Go.Am.N AV
theorem afw:aT P xL Bs (aA Bs):=aY Proofs.Tryz.func220 ag ag ag
theorem abK:aT P BK BY (aA BY):=aY Proofs.Tryz.func247 ag ag ag
theorem TX:aT P zW C3 (aA C3):=aY Proofs.Tryz.func184 ag ag ag
abbrev mq:ByteArray:=⟨((List.range 256).map fun i=>UInt8.ofNat (bN i)).toArray⟩
def Ho:Spec:=bX fun l=>match l with
 |[.int .u32 x]=>some (aK (.int .i64 (bN x.toNat:Nat)) [0<=x/\x<2^32])
 |_=>none
theorem agJ {x:Nat}:bW T [] [4,8] 30 Bs (aA Bs) ⟨aQ 0 [.int .u32 x],[],0⟩=
  some (ah.fork (decide ((↑x:Int)>=(65536:Int))) (ah.aj [(0:Int)<=(16:Int)] (ah.fork (decide ((↑x:Int).fdiv ((2:Int)^min (Int.toNat (16:Int)) IntKind.u32.bits)>=(256:Int))) (ah.aj [(0:Int)<=(8:Int)] (ah.aj [(0:Int)<=IntKind.u8.wrap (((↑x:Int).fdiv ((2:Int)^min (Int.toNat (16:Int)) IntKind.u32.bits)).fdiv ((2:Int)^min (Int.toNat (8:Int)) IntKind.u32.bits))/\IntKind.u8.wrap (((↑x:Int).fdiv ((2:Int)^min (Int.toNat (16:Int)) IntKind.u32.bits)).fdiv ((2:Int)^min (Int.toNat (8:Int)) IntKind.u32.bits))<(↑mq.size:Int)] (ah.leaf au.ret [int IntKind.i64 (IntKind.i64.wrap (IntKind.i64.wrap ((16:Int)+(8:Int))+IntKind.i64.wrap (↑(ou mq (IntKind.u8.wrap (((↑x:Int).fdiv ((2:Int)^min (Int.toNat (16:Int)) IntKind.u32.bits)).fdiv ((2:Int)^min (Int.toNat (8:Int)) IntKind.u32.bits))).toNat):Int)))]))) (ah.aj [(0:Int)<=IntKind.u8.wrap ((↑x:Int).fdiv ((2:Int)^min (Int.toNat (16:Int)) IntKind.u32.bits))/\IntKind.u8.wrap ((↑x:Int).fdiv ((2:Int)^min (Int.toNat (16:Int)) IntKind.u32.bits))<(↑mq.size:Int)] (ah.leaf au.ret [int IntKind.i64 (IntKind.i64.wrap ((16:Int)+IntKind.i64.wrap (↑(ou mq (IntKind.u8.wrap ((↑x:Int).fdiv ((2:Int)^min (Int.toNat (16:Int)) IntKind.u32.bits))).toNat):Int)))])))) (ah.fork (decide ((↑x:Int)>=(256:Int))) (ah.aj [(0:Int)<=(8:Int)] (ah.aj [(0:Int)<=IntKind.u8.wrap ((↑x:Int).fdiv ((2:Int)^min (Int.toNat (8:Int)) IntKind.u32.bits))/\IntKind.u8.wrap ((↑x:Int).fdiv ((2:Int)^min (Int.toNat (8:Int)) IntKind.u32.bits))<(↑mq.size:Int)] (ah.leaf au.ret [int IntKind.i64 (IntKind.i64.wrap (IntKind.i64.wrap ((0:Int)+(8:Int))+IntKind.i64.wrap (↑(ou mq (IntKind.u8.wrap ((↑x:Int).fdiv ((2:Int)^min (Int.toNat (8:Int)) IntKind.u32.bits))).toNat):Int)))]))) (ah.aj [(0:Int)<=IntKind.u8.wrap (↑x:Int)/\IntKind.u8.wrap (↑x:Int)<(↑mq.size:Int)] (ah.leaf au.ret [int IntKind.i64 (IntKind.i64.wrap ((0:Int)+IntKind.i64.wrap (↑(ou mq (IntKind.u8.wrap (↑x:Int)).toNat):Int)))])))):=ag
theorem Du {i:Nat} (h:i<256):ou mq i=bN i:=by
 have h8:bN i<=8:=jI.2 aa
 unfold ou
 have:mq.data[i]?=some (UInt8.ofNat (bN i)):=by simp[mq,h]
 rw[this]
 simp only[UInt8.toNat_ofNat']
 omega
theorem aku:mq.size=256:=by
 show(List.map _ (List.range 256)).toArray.size=256
 simp
theorem yD {x:Nat} {s:Int} (hs:0<=s) (h:s<32):(x:Int).fdiv (2^min s.toNat IntKind.u32.bits)=((x/2^s.toNat:Nat):Int):=by
 have:IntKind.u32.bits=32:=rfl
 rw[this,Nat.min_eq_left aa,Int.fdiv_eq_ediv_of_nonneg _ (by exact Int.le_of_lt (Int.pow_pos (by decide)))]
 simp
theorem EN {x:Nat} (h:x<256):IntKind.u8.wrap (x:Int)=x:=by
 simp[IntKind.wrap,IntKind.bits,IntKind.signed];omega
theorem UY {x:Nat} (hx:x<2^32) (K:Nat) (pre:aF):aE P xL K [.int .u32 x] pre (aK (.int .i64 (bN x:Nat)) []):=by
 refine cj hT bO hm afw rfl aX rfl 30 agJ (fun _=>?_) K pre
 have b8:∀i:Nat,i<256->bN i<=8:=fun i h=>jI.2 aa
 rw[yD (by decide) (by decide),yD (by decide) (by decide),yD (by decide) (by decide)]
 simp only[ah.all,az,aZ,bk,aku,show Int.toNat 16=16 from rfl,show Int.toNat 8=8 from rfl]
 refine⟨fun h1=>⟨aa,fun h2=>⟨aa,?_⟩,fun h2=>?_⟩,fun h1=>⟨fun h2=>⟨aa,?_⟩,fun h2=>?_⟩⟩
 ·have h3:x/2^16/2^8<256:=aa
  have e:bN x=16+(8+bN (x/2^16/2^8)):=by rw[ux (k:=16) aa,ux (x:=x/2^16) (k:=8) aa]
  rw[EN h3]
  refine⟨aa,bQ ?_⟩
  rw[aW,Du h3,e]
  have:=b8 _ h3
  rw[wrap_i64 (x:=((bN (x/2^16/2^8):Nat):Int)) aa aa,wrap_i64 (x:=(16:Int)+8) aa aa,wrap_i64 aa aa]
  omega
 ·have h3:x/2^16<256:=aa
  have e:bN x=16+bN (x/2^16):=by rw[ux (k:=16) aa]
  rw[EN h3]
  refine⟨aa,bQ ?_⟩
  rw[aW,Du h3,e]
  have:=b8 _ h3
  rw[wrap_i64 (x:=((bN (x/2^16):Nat):Int)) aa aa,wrap_i64 aa aa]
  omega
 ·have h3:x/2^8<256:=aa
  have e:bN x=8+bN (x/2^8):=by rw[ux (k:=8) aa]
  rw[EN h3]
  refine⟨aa,bQ ?_⟩
  rw[aW,Du h3,e]
  have:=b8 _ h3
  rw[wrap_i64 (x:=((bN (x/2^8):Nat):Int)) aa aa,wrap_i64 (x:=(0:Int)+8) aa aa,wrap_i64 aa aa]
  omega
 ·have h3:x<256:=aa
  rw[EN h3]
  refine⟨aa,bQ ?_⟩
  rw[aW,Du h3]
  have:=b8 _ h3
  rw[wrap_i64 (x:=((bN x:Nat):Int)) aa aa,wrap_i64 aa aa]
  omega
theorem SQ:∀K args pre r,Ho K args pre=some r->aE P xL K args pre r:=by
 refine cK fun K args r hk hs _=>?_
 split at hs
 ·rename_i x
  simp only[ay]at hs
  subst hs
  intro need
  obtain⟨h1,h2⟩:0<=x/\x<2^32:=need
  obtain⟨y,rfl⟩:=Int.eq_ofNat_of_zero_le h1
  exact UY (x:=y) aa K [] trivial
 ·simp at hs
theorem Ue {x:Nat}:bW T [(xL,Ho)] [] 30 BY (aA BY) ⟨aQ 0 [.int .u32 x],[],0⟩=
  some (ah.aj [(0:Int)<=(↑x:Int)/\(↑x:Int)<(2:Int)^32] (ah.leaf au.ret [int IntKind.i64 (IntKind.i64.wrap ((32:Int)-(↑(bN (↑x:Int).toNat):Int)))])):=ag
theorem adB {n:Nat} {z:Nat->Nat}:bW T ((xL,Ho)::G1) [7] 30 C3 (aA C3) ⟨aQ 0 [.aq 1 n (aD z)],[],0⟩=
  some (ah.aj [dQ n (aD z),n<2^62] (ah.fork ((↑(nl (val n fun(i:Nat)=>numOf (aD z i))):Int)==(0:Int)) (ah.leaf au.ret [int IntKind.i64 (0:Int)]) (ah.aj [(0:Int)<=IntKind.i64.wrap ((↑(nl (val n fun(i:Nat)=>numOf (aD z i))):Int)-(1:Int))/\(IntKind.i64.wrap ((↑(nl (val n fun(i:Nat)=>numOf (aD z i))):Int)-(1:Int))).toNat<nl (val n fun(i:Nat)=>numOf (aD z i)),(0:Int)<=(↑(aG (val n fun(i:Nat)=>numOf (aD z i)) (IntKind.i64.wrap ((↑(nl (val n fun(i:Nat)=>numOf (aD z i))):Int)-(1:Int))).toNat):Int)/\(↑(aG (val n fun(i:Nat)=>numOf (aD z i)) (IntKind.i64.wrap ((↑(nl (val n fun(i:Nat)=>numOf (aD z i))):Int)-(1:Int))).toNat):Int)<(2:Int)^32] (ah.leaf au.ret [int IntKind.i64 (IntKind.i64.wrap (IntKind.i64.wrap ((32:Int)*IntKind.i64.wrap ((↑(nl (val n fun(i:Nat)=>numOf (aD z i))):Int)-(1:Int)))+(↑(bN (↑(aG (val n fun(i:Nat)=>numOf (aD z i)) (IntKind.i64.wrap ((↑(nl (val n fun(i:Nat)=>numOf (aD z i))):Int)-(1:Int))).toNat):Int).toNat):Int)))])))):=ag
theorem Ui {x:Nat} (hx:x<2^32) (K:Nat) (pre:aF):aE P BK K [.int .u32 x] pre (aK (.int .i64 (32-bN x:Nat)) []):=by
 refine cj hT (aL SQ bO) hm abK rfl aX rfl 30 Ue (fun _=>?_) K pre
 have h1:bN x<=32:=jI.2 hx
 simp only[ah.all,az]
 refine⟨aa,bQ ?_⟩
 rw[aW,wrap_i64 aa aa];omega
theorem aep {n:Nat} {z:Nat->Nat} (hz:∀i,i<n->z i<2^32) (hn:n<2^40) (K:Nat) (pre:aF):aE P zW K [.aq 1 n (aD z)] pre (aK (.int .i64 (bN (val n z):Nat)) []):=by
 refine cj hT (aL SQ gA) hm TX rfl aX rfl 30 adB (fun _=>?_) K pre
 have hnl:nl (val n z)<=n:=dz.2 (fO hz)
 simp only[ah.all,az,jQ,beq_iff_eq,beq_eq_false_iff_ne,ne_eq]
 generalize val n z=N at*
 refine⟨⟨gd hz,aa⟩,fun h=>bQ ?_,fun h=>?_⟩
 ·have:N=0:=by
   rcases Nat.eq_zero_or_pos N with h1|h1
   ·exact h1
   ·have:=gn.2 (show N≠0 by omega);omega
  simp[this,bN]
 ·have h0:N≠0:=gn.1 aa
  have hp:=gn.2 h0
  have e:IntKind.i64.wrap ((nl N:Int)-1)=((nl N-1:Nat):Int):=by rw[wrap_i64 aa aa];omega
  rw[e,aW,aW]
  have hl:=dG (N:=N) (i:=nl N-1)
  have hb:=SH h0
  have h32:bN (aG N (nl N-1))<=32:=jI.2 hl
  refine⟨⟨aa,aa⟩,bQ ?_⟩
  rw[hb,wrap_i64 (x:=32*((nl N-1:Nat):Int)) aa aa,wrap_i64 aa aa]
  omega
def Lz:Spec:=bX fun l=>match l with
 |[.int .u32 x]=>some (aK (.int .i64 (32-bN x.toNat:Nat)) [0<=x/\x<2^32])
 |_=>none
theorem aly:∀K args pre r,Lz K args pre=some r->aE P BK K args pre r:=by
 refine cK fun K args r hk hs _=>?_
 split at hs
 ·rename_i x
  simp only[ay]at hs
  subst hs
  intro need
  obtain⟨h1,h2⟩:0<=x/\x<2^32:=need
  obtain⟨y,rfl⟩:=Int.eq_ofNat_of_zero_le h1
  exact Ui (x:=y) aa K [] trivial
 ·simp at hs
def Jn (N n:Nat):dm:=aK (.int .i64 (bN N:Nat)) [n<2^40]
theorem Nn:∀K args pre r,bX (mo Jn) K args pre=some r->aE P zW K args pre r:=
 cK (uR fun _ _ K hz need=>aep hz need K [])
end Go.Am.B
