/- bits.Len32, bits.LeadingZeros32, natural.Bits, slices.Clone, slices.Equal. -/
import Derived.Test.YtppeigelbecpbaaGreatB4
set_option linter.unusedVariables false
namespace Go.Am.B
open Go Go.Am.N AV
theorem Nz:aN P oq vR (au vR):=aO QA (by kernel_rfl) (by kernel_rfl) (by kernel_rfl)
theorem UL:aN P tE sZ (au sZ):=aO Xf (by kernel_rfl) (by kernel_rfl) (by kernel_rfl)
theorem WA:aN P pI vI (au vI):=aO XP (by kernel_rfl) (by kernel_rfl) (by kernel_rfl)
abbrev iO:ByteArray:=⟨((List.range 256).map fun i=>UInt8.ofNat (aY i)).toArray⟩
def A5:Spec:=bq fun l=>match l with
 |[.int .u32 x]=>some (aG (.int .i64 (aY x.toNat:Nat)) [0≤x∧x<2^32])
 |_=>none
theorem WZ {x:Nat}:bu T [] [4,8] 30 vR (au vR) ⟨aM 0 [.int .u32 x],[],0⟩=
  some (aa.fork (decide ((↑x:Int)≥(65536:Int))) (aa.ag [(0:Int)≤(16:Int)] (aa.fork (decide ((↑x:Int).fdiv ((2:Int)^min (Int.toNat (16:Int)) IntKind.u32.bits)≥(256:Int))) (aa.ag [(0:Int)≤(8:Int)] (aa.ag [(0:Int)≤IntKind.u8.wrap (((↑x:Int).fdiv ((2:Int)^min (Int.toNat (16:Int)) IntKind.u32.bits)).fdiv ((2:Int)^min (Int.toNat (8:Int)) IntKind.u32.bits))∧IntKind.u8.wrap (((↑x:Int).fdiv ((2:Int)^min (Int.toNat (16:Int)) IntKind.u32.bits)).fdiv ((2:Int)^min (Int.toNat (8:Int)) IntKind.u32.bits))<(↑iO.size:Int)] (aa.leaf ah.ret [int IntKind.i64 (IntKind.i64.wrap (IntKind.i64.wrap ((16:Int)+(8:Int))+IntKind.i64.wrap (↑(jP iO (IntKind.u8.wrap (((↑x:Int).fdiv ((2:Int)^min (Int.toNat (16:Int)) IntKind.u32.bits)).fdiv ((2:Int)^min (Int.toNat (8:Int)) IntKind.u32.bits))).toNat):Int)))]))) (aa.ag [(0:Int)≤IntKind.u8.wrap ((↑x:Int).fdiv ((2:Int)^min (Int.toNat (16:Int)) IntKind.u32.bits))∧IntKind.u8.wrap ((↑x:Int).fdiv ((2:Int)^min (Int.toNat (16:Int)) IntKind.u32.bits))<(↑iO.size:Int)] (aa.leaf ah.ret [int IntKind.i64 (IntKind.i64.wrap ((16:Int)+IntKind.i64.wrap (↑(jP iO (IntKind.u8.wrap ((↑x:Int).fdiv ((2:Int)^min (Int.toNat (16:Int)) IntKind.u32.bits))).toNat):Int)))])))) (aa.fork (decide ((↑x:Int)≥(256:Int))) (aa.ag [(0:Int)≤(8:Int)] (aa.ag [(0:Int)≤IntKind.u8.wrap ((↑x:Int).fdiv ((2:Int)^min (Int.toNat (8:Int)) IntKind.u32.bits))∧IntKind.u8.wrap ((↑x:Int).fdiv ((2:Int)^min (Int.toNat (8:Int)) IntKind.u32.bits))<(↑iO.size:Int)] (aa.leaf ah.ret [int IntKind.i64 (IntKind.i64.wrap (IntKind.i64.wrap ((0:Int)+(8:Int))+IntKind.i64.wrap (↑(jP iO (IntKind.u8.wrap ((↑x:Int).fdiv ((2:Int)^min (Int.toNat (8:Int)) IntKind.u32.bits))).toNat):Int)))]))) (aa.ag [(0:Int)≤IntKind.u8.wrap (↑x:Int)∧IntKind.u8.wrap (↑x:Int)<(↑iO.size:Int)] (aa.leaf ah.ret [int IntKind.i64 (IntKind.i64.wrap ((0:Int)+IntKind.i64.wrap (↑(jP iO (IntKind.u8.wrap (↑x:Int)).toNat):Int)))])))):=by kernel_rfl
theorem yJ {i:Nat} (h:i<256):jP iO i=aY i:=by
 have h8:aY i≤8:=gp.2 (by omega)
 unfold jP
 have:iO.data[i]?=some (UInt8.ofNat (aY i)):=by simp[iO,h]
 rw[this]
 simp only[UInt8.toNat_ofNat']
 omega
theorem Xk:iO.size=256:=by
 show(List.map _ (List.range 256)).toArray.size=256
 simp
theorem qD {x:Nat} {s:Int} (hs:0≤s) (h:s<32):(x:Int).fdiv (2^min s.toNat IntKind.u32.bits)=((x/2^s.toNat:Nat):Int):=by
 have:IntKind.u32.bits=32:=rfl
 rw[this,Nat.min_eq_left (by omega),Int.fdiv_eq_ediv_of_nonneg _ (by exact Int.le_of_lt (Int.pow_pos (by decide)))]
 simp
theorem wj {x:Nat} (h:x<256):IntKind.u8.wrap (x:Int)=x:=by
 simp[IntKind.wrap,IntKind.bits,IntKind.signed];omega
theorem To {x:Nat} (hx:x<2^32) (K:Nat) (pre:aA):aB P oq K [.int .u32 x] pre (aG (.int .i64 (aY x:Nat)) []):=by
 refine bE hT br hm Nz rfl (of_decide_eq_true (by kernel_rfl)) rfl 30 WZ (fun _=>?_) K pre
 have b8:∀i:Nat,i<256→aY i≤8:=fun i h=>gp.2 (by omega)
 rw[qD (by decide) (by decide),qD (by decide) (by decide),qD (by decide) (by decide)]
 simp only[aa.all,az,decide_eq_true_eq,decide_eq_false_iff_not,Xk,show Int.toNat 16=16 from rfl,show Int.toNat 8=8 from rfl]
 refine⟨fun h1=>⟨by omega,fun h2=>⟨by omega,?_⟩,fun h2=>?_⟩,fun h1=>⟨fun h2=>⟨by omega,?_⟩,fun h2=>?_⟩⟩
 ·have h3:x/2^16/2^8<256:=by omega
  have e:aY x=16+(8+aY (x/2^16/2^8)):=by rw[oy (k:=16) (by omega),oy (x:=x/2^16) (k:=8) (by omega)]
  rw[wj h3]
  refine⟨by omega,bh ?_⟩
  rw[Int.toNat_natCast,yJ h3,e]
  have:=b8 _ h3
  rw[wrap_i64 (x:=((aY (x/2^16/2^8):Nat):Int)) (by omega) (by omega),wrap_i64 (x:=(16:Int)+8) (by omega) (by omega),wrap_i64 (by omega) (by omega)]
  omega
 ·have h3:x/2^16<256:=by omega
  have e:aY x=16+aY (x/2^16):=by rw[oy (k:=16) (by omega)]
  rw[wj h3]
  refine⟨by omega,bh ?_⟩
  rw[Int.toNat_natCast,yJ h3,e]
  have:=b8 _ h3
  rw[wrap_i64 (x:=((aY (x/2^16):Nat):Int)) (by omega) (by omega),wrap_i64 (by omega) (by omega)]
  omega
 ·have h3:x/2^8<256:=by omega
  have e:aY x=8+aY (x/2^8):=by rw[oy (k:=8) (by omega)]
  rw[wj h3]
  refine⟨by omega,bh ?_⟩
  rw[Int.toNat_natCast,yJ h3,e]
  have:=b8 _ h3
  rw[wrap_i64 (x:=((aY (x/2^8):Nat):Int)) (by omega) (by omega),wrap_i64 (x:=(0:Int)+8) (by omega) (by omega),wrap_i64 (by omega) (by omega)]
  omega
 ·have h3:x<256:=by omega
  rw[wj h3]
  refine⟨by omega,bh ?_⟩
  rw[Int.toNat_natCast,yJ h3]
  have:=b8 _ h3
  rw[wrap_i64 (x:=((aY x:Nat):Int)) (by omega) (by omega),wrap_i64 (by omega) (by omega)]
  omega
theorem C7:∀K args pre r,A5 K args pre=some r→aB P oq K args pre r:=by
 refine bL fun K args r hk hs _=>?_
 split at hs
 ·rename_i x
  simp only[Option.some.injEq]at hs
  subst hs
  intro need
  obtain⟨h1,h2⟩:0≤x∧x<2^32:=need
  obtain⟨y,rfl⟩:=Int.eq_ofNat_of_zero_le h1
  exact To (x:=y) (by omega) K [] trivial
 ·simp at hs
theorem MR {x:Nat}:bu T [(oq,A5)] [] 30 sZ (au sZ) ⟨aM 0 [.int .u32 x],[],0⟩=
  some (aa.ag [(0:Int)≤(↑x:Int)∧(↑x:Int)<(2:Int)^32] (aa.leaf ah.ret [int IntKind.i64 (IntKind.i64.wrap ((32:Int)-(↑(aY (↑x:Int).toNat):Int)))])):=by kernel_rfl
theorem YN {n:Nat} {z:Nat→Nat}:bu T ((oq,A5)::G1) [7] 30 vI (au vI) ⟨aM 0 [.aq 1 n (ax z)],[],0⟩=
  some (aa.ag [cJ n (ax z),n<2^62] (aa.fork ((↑(nl (val n fun(i:Nat)↦numOf (ax z i))):Int)==(0:Int)) (aa.leaf ah.ret [int IntKind.i64 (0:Int)]) (aa.ag [(0:Int)≤IntKind.i64.wrap ((↑(nl (val n fun(i:Nat)↦numOf (ax z i))):Int)-(1:Int))∧(IntKind.i64.wrap ((↑(nl (val n fun(i:Nat)↦numOf (ax z i))):Int)-(1:Int))).toNat<nl (val n fun(i:Nat)↦numOf (ax z i)),(0:Int)≤(↑(ay (val n fun(i:Nat)↦numOf (ax z i)) (IntKind.i64.wrap ((↑(nl (val n fun(i:Nat)↦numOf (ax z i))):Int)-(1:Int))).toNat):Int)∧(↑(ay (val n fun(i:Nat)↦numOf (ax z i)) (IntKind.i64.wrap ((↑(nl (val n fun(i:Nat)↦numOf (ax z i))):Int)-(1:Int))).toNat):Int)<(2:Int)^32] (aa.leaf ah.ret [int IntKind.i64 (IntKind.i64.wrap (IntKind.i64.wrap ((32:Int)*IntKind.i64.wrap ((↑(nl (val n fun(i:Nat)↦numOf (ax z i))):Int)-(1:Int)))+(↑(aY (↑(ay (val n fun(i:Nat)↦numOf (ax z i)) (IntKind.i64.wrap ((↑(nl (val n fun(i:Nat)↦numOf (ax z i))):Int)-(1:Int))).toNat):Int).toNat):Int)))])))):=by kernel_rfl
theorem RY {x:Nat} (hx:x<2^32) (K:Nat) (pre:aA):aB P tE K [.int .u32 x] pre (aG (.int .i64 (32-aY x:Nat)) []):=by
 refine bE hT (aK C7 br) hm UL rfl (of_decide_eq_true (by kernel_rfl)) rfl 30 MR (fun _=>?_) K pre
 have h1:aY x≤32:=gp.2 hx
 simp only[aa.all,az]
 refine⟨by omega,bh ?_⟩
 rw[Int.toNat_natCast,wrap_i64 (by omega) (by omega)];omega
theorem NY {n:Nat} {z:Nat→Nat} (hz:∀i,i<n→z i<2^32) (hn:n<2^40) (K:Nat) (pre:aA):aB P pI K [.aq 1 n (ax z)] pre (aG (.int .i64 (aY (val n z):Nat)) []):=by
 refine bE hT (aK C7 eR) hm WA rfl (of_decide_eq_true (by kernel_rfl)) rfl 30 YN (fun _=>?_) K pre
 have hnl:nl (val n z)≤n:=cq.2 (ec hz)
 simp only[aa.all,az,gC,beq_iff_eq,beq_eq_false_iff_ne,ne_eq]
 generalize val n z=N at*
 refine⟨⟨eA hz,by omega⟩,fun h=>bh ?_,fun h=>?_⟩
 ·have:N=0:=by
   rcases Nat.eq_zero_or_pos N with h1|h1
   ·exact h1
   ·have:=eL.2 (show N≠0 by omega);omega
  simp[this,aY]
 ·have h0:N≠0:=eL.1 (by omega)
  have hp:=eL.2 h0
  have e:IntKind.i64.wrap ((nl N:Int)-1)=((nl N-1:Nat):Int):=by rw[wrap_i64 (by omega) (by omega)];omega
  rw[e,Int.toNat_natCast,Int.toNat_natCast]
  have hl:=cA (N:=N) (i:=nl N-1)
  have hb:=Ih h0
  have h32:aY (ay N (nl N-1))≤32:=gp.2 hl
  refine⟨⟨by omega,by omega⟩,bh ?_⟩
  rw[hb,wrap_i64 (x:=32*((nl N-1:Nat):Int)) (by omega) (by omega),wrap_i64 (by omega) (by omega)]
  omega
def Fp:Spec:=bq fun l=>match l with
 |[.int .u32 x]=>some (aG (.int .i64 (32-aY x.toNat:Nat)) [0≤x∧x<2^32])
 |_=>none
theorem J7:∀K args pre r,Fp K args pre=some r→aB P tE K args pre r:=by
 refine bL fun K args r hk hs _=>?_
 split at hs
 ·rename_i x
  simp only[Option.some.injEq]at hs
  subst hs
  intro need
  obtain⟨h1,h2⟩:0≤x∧x<2^32:=need
  obtain⟨y,rfl⟩:=Int.eq_ofNat_of_zero_le h1
  exact RY (x:=y) (by omega) K [] trivial
 ·simp at hs
def BG (N n:Nat):cr:=aG (.int .i64 (aY N:Nat)) [n<2^40]
theorem DC:∀K args pre r,bq (jb BG) K args pre=some r→aB P pI K args pre r:=
 bL (oB fun _ _ K hz need=>NY hz need K [])
end Go.Am.B
