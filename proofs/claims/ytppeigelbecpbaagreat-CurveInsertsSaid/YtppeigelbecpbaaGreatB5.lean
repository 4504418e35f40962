/- bits.Len32, bits.LeadingZeros32, natural.Bits, slices.Clone, slices.Equal. -/
import Derived.Test.YtppeigelbecpbaaGreatB4
set_option linter.unusedVariables false
namespace Go.Am.B
open Go Go.Am.N AV
theorem afs:aP P uA xQ (au xQ):=aQ agj (by kernel_rfl) (by kernel_rfl) (by kernel_rfl)
theorem aew:aP P x3 vj (au vj):=aQ Vx (by kernel_rfl) (by kernel_rfl) (by kernel_rfl)
theorem ahQ:aP P sn xB (au xB):=aQ Z4 (by kernel_rfl) (by kernel_rfl) (by kernel_rfl)
abbrev kE:ByteArray:=⟨((List.range 256).map fun i=>UInt8.ofNat (bu i)).toArray⟩
def Gw:Spec:=bE fun l=>match l with
 |[.int .u32 x]=>some (aG (.int .i64 (bu x.toNat:Nat)) [0≤x∧x<2^32])
 |_=>none
theorem ahU {x:Nat}:bC T [] [4,8] 30 xQ (au xQ) ⟨aN 0 [.int .u32 x],[],0⟩=
  some (aa.fork (decide ((↑x:Int)≥(65536:Int))) (aa.ag [(0:Int)≤(16:Int)] (aa.fork (decide ((↑x:Int).fdiv ((2:Int)^min (Int.toNat (16:Int)) IntKind.u32.bits)≥(256:Int))) (aa.ag [(0:Int)≤(8:Int)] (aa.ag [(0:Int)≤IntKind.u8.wrap (((↑x:Int).fdiv ((2:Int)^min (Int.toNat (16:Int)) IntKind.u32.bits)).fdiv ((2:Int)^min (Int.toNat (8:Int)) IntKind.u32.bits))∧IntKind.u8.wrap (((↑x:Int).fdiv ((2:Int)^min (Int.toNat (16:Int)) IntKind.u32.bits)).fdiv ((2:Int)^min (Int.toNat (8:Int)) IntKind.u32.bits))<(↑kE.size:Int)] (aa.leaf ak.ret [int IntKind.i64 (IntKind.i64.wrap (IntKind.i64.wrap ((16:Int)+(8:Int))+IntKind.i64.wrap (↑(mJ kE (IntKind.u8.wrap (((↑x:Int).fdiv ((2:Int)^min (Int.toNat (16:Int)) IntKind.u32.bits)).fdiv ((2:Int)^min (Int.toNat (8:Int)) IntKind.u32.bits))).toNat):Int)))]))) (aa.ag [(0:Int)≤IntKind.u8.wrap ((↑x:Int).fdiv ((2:Int)^min (Int.toNat (16:Int)) IntKind.u32.bits))∧IntKind.u8.wrap ((↑x:Int).fdiv ((2:Int)^min (Int.toNat (16:Int)) IntKind.u32.bits))<(↑kE.size:Int)] (aa.leaf ak.ret [int IntKind.i64 (IntKind.i64.wrap ((16:Int)+IntKind.i64.wrap (↑(mJ kE (IntKind.u8.wrap ((↑x:Int).fdiv ((2:Int)^min (Int.toNat (16:Int)) IntKind.u32.bits))).toNat):Int)))])))) (aa.fork (decide ((↑x:Int)≥(256:Int))) (aa.ag [(0:Int)≤(8:Int)] (aa.ag [(0:Int)≤IntKind.u8.wrap ((↑x:Int).fdiv ((2:Int)^min (Int.toNat (8:Int)) IntKind.u32.bits))∧IntKind.u8.wrap ((↑x:Int).fdiv ((2:Int)^min (Int.toNat (8:Int)) IntKind.u32.bits))<(↑kE.size:Int)] (aa.leaf ak.ret [int IntKind.i64 (IntKind.i64.wrap (IntKind.i64.wrap ((0:Int)+(8:Int))+IntKind.i64.wrap (↑(mJ kE (IntKind.u8.wrap ((↑x:Int).fdiv ((2:Int)^min (Int.toNat (8:Int)) IntKind.u32.bits))).toNat):Int)))]))) (aa.ag [(0:Int)≤IntKind.u8.wrap (↑x:Int)∧IntKind.u8.wrap (↑x:Int)<(↑kE.size:Int)] (aa.leaf ak.ret [int IntKind.i64 (IntKind.i64.wrap ((0:Int)+IntKind.i64.wrap (↑(mJ kE (IntKind.u8.wrap (↑x:Int)).toNat):Int)))])))):=by kernel_rfl
theorem Ci {i:Nat} (h:i<256):mJ kE i=bu i:=by
 have h8:bu i≤8:=iH.2 (by omega)
 unfold mJ
 have:kE.data[i]?=some (UInt8.ofNat (bu i)):=by simp[kE,h]
 rw[this]
 simp only[UInt8.toNat_ofNat']
 omega
theorem acT:kE.size=256:=by
 show(List.map _ (List.range 256)).toArray.size=256
 simp
theorem Bl {x:Nat} {s:Int} (hs:0≤s) (h:s<32):(x:Int).fdiv (2^min s.toNat IntKind.u32.bits)=((x/2^s.toNat:Nat):Int):=by
 have:IntKind.u32.bits=32:=rfl
 rw[this,Nat.min_eq_left (by omega),Int.fdiv_eq_ediv_of_nonneg _ (by exact Int.le_of_lt (Int.pow_pos (by decide)))]
 simp
theorem Ec {x:Nat} (h:x<256):IntKind.u8.wrap (x:Int)=x:=by
 simp[IntKind.wrap,IntKind.bits,IntKind.signed];omega
theorem T9 {x:Nat} (hx:x<2^32) (K:Nat) (pre:aC):aA P uA K [.int .u32 x] pre (aG (.int .i64 (bu x:Nat)) []):=by
 refine bJ hT bp hm afs rfl (of_decide_eq_true (by kernel_rfl)) rfl 30 ahU (fun _=>?_) K pre
 have b8:∀i:Nat,i<256→bu i≤8:=fun i h=>iH.2 (by omega)
 rw[Bl (by decide) (by decide),Bl (by decide) (by decide),Bl (by decide) (by decide)]
 simp only[aa.all,ax,decide_eq_true_eq,decide_eq_false_iff_not,acT,show Int.toNat 16=16 from rfl,show Int.toNat 8=8 from rfl]
 refine⟨fun h1=>⟨by omega,fun h2=>⟨by omega,?_⟩,fun h2=>?_⟩,fun h1=>⟨fun h2=>⟨by omega,?_⟩,fun h2=>?_⟩⟩
 ·have h3:x/2^16/2^8<256:=by omega
  have e:bu x=16+(8+bu (x/2^16/2^8)):=by rw[tn (k:=16) (by omega),tn (x:=x/2^16) (k:=8) (by omega)]
  rw[Ec h3]
  refine⟨by omega,bt ?_⟩
  rw[Int.toNat_natCast,Ci h3,e]
  have:=b8 _ h3
  rw[wrap_i64 (x:=((bu (x/2^16/2^8):Nat):Int)) (by omega) (by omega),wrap_i64 (x:=(16:Int)+8) (by omega) (by omega),wrap_i64 (by omega) (by omega)]
  omega
 ·have h3:x/2^16<256:=by omega
  have e:bu x=16+bu (x/2^16):=by rw[tn (k:=16) (by omega)]
  rw[Ec h3]
  refine⟨by omega,bt ?_⟩
  rw[Int.toNat_natCast,Ci h3,e]
  have:=b8 _ h3
  rw[wrap_i64 (x:=((bu (x/2^16):Nat):Int)) (by omega) (by omega),wrap_i64 (by omega) (by omega)]
  omega
 ·have h3:x/2^8<256:=by omega
  have e:bu x=8+bu (x/2^8):=by rw[tn (k:=8) (by omega)]
  rw[Ec h3]
  refine⟨by omega,bt ?_⟩
  rw[Int.toNat_natCast,Ci h3,e]
  have:=b8 _ h3
  rw[wrap_i64 (x:=((bu (x/2^8):Nat):Int)) (by omega) (by omega),wrap_i64 (x:=(0:Int)+8) (by omega) (by omega),wrap_i64 (by omega) (by omega)]
  omega
 ·have h3:x<256:=by omega
  rw[Ec h3]
  refine⟨by omega,bt ?_⟩
  rw[Int.toNat_natCast,Ci h3]
  have:=b8 _ h3
  rw[wrap_i64 (x:=((bu x:Nat):Int)) (by omega) (by omega),wrap_i64 (by omega) (by omega)]
  omega
theorem ON:∀K args pre r,Gw K args pre=some r→aA P uA K args pre r:=by
 refine bX fun K args r hk hs _=>?_
 split at hs
 ·rename_i x
  simp only[Option.some.injEq]at hs
  subst hs
  intro need
  obtain⟨h1,h2⟩:0≤x∧x<2^32:=need
  obtain⟨y,rfl⟩:=Int.eq_ofNat_of_zero_le h1
  exact T9 (x:=y) (by omega) K [] trivial
 ·simp at hs
theorem T3 {x:Nat}:bC T [(uA,Gw)] [] 30 vj (au vj) ⟨aN 0 [.int .u32 x],[],0⟩=
  some (aa.ag [(0:Int)≤(↑x:Int)∧(↑x:Int)<(2:Int)^32] (aa.leaf ak.ret [int IntKind.i64 (IntKind.i64.wrap ((32:Int)-(↑(bu (↑x:Int).toNat):Int)))])):=by kernel_rfl
theorem XM {n:Nat} {z:Nat→Nat}:bC T ((uA,Gw)::G1) [7] 30 xB (au xB) ⟨aN 0 [.aj 1 n (ay z)],[],0⟩=
  some (aa.ag [dz n (ay z),n<2^62] (aa.fork ((↑(nl (val n fun(i:Nat)↦numOf (ay z i))):Int)==(0:Int)) (aa.leaf ak.ret [int IntKind.i64 (0:Int)]) (aa.ag [(0:Int)≤IntKind.i64.wrap ((↑(nl (val n fun(i:Nat)↦numOf (ay z i))):Int)-(1:Int))∧(IntKind.i64.wrap ((↑(nl (val n fun(i:Nat)↦numOf (ay z i))):Int)-(1:Int))).toNat<nl (val n fun(i:Nat)↦numOf (ay z i)),(0:Int)≤(↑(az (val n fun(i:Nat)↦numOf (ay z i)) (IntKind.i64.wrap ((↑(nl (val n fun(i:Nat)↦numOf (ay z i))):Int)-(1:Int))).toNat):Int)∧(↑(az (val n fun(i:Nat)↦numOf (ay z i)) (IntKind.i64.wrap ((↑(nl (val n fun(i:Nat)↦numOf (ay z i))):Int)-(1:Int))).toNat):Int)<(2:Int)^32] (aa.leaf ak.ret [int IntKind.i64 (IntKind.i64.wrap (IntKind.i64.wrap ((32:Int)*IntKind.i64.wrap ((↑(nl (val n fun(i:Nat)↦numOf (ay z i))):Int)-(1:Int)))+(↑(bu (↑(az (val n fun(i:Nat)↦numOf (ay z i)) (IntKind.i64.wrap ((↑(nl (val n fun(i:Nat)↦numOf (ay z i))):Int)-(1:Int))).toNat):Int).toNat):Int)))])))):=by kernel_rfl
theorem Q0 {x:Nat} (hx:x<2^32) (K:Nat) (pre:aC):aA P x3 K [.int .u32 x] pre (aG (.int .i64 (32-bu x:Nat)) []):=by
 refine bJ hT (aH ON bp) hm aew rfl (of_decide_eq_true (by kernel_rfl)) rfl 30 T3 (fun _=>?_) K pre
 have h1:bu x≤32:=iH.2 hx
 simp only[aa.all,ax]
 refine⟨by omega,bt ?_⟩
 rw[Int.toNat_natCast,wrap_i64 (by omega) (by omega)];omega
theorem U3 {n:Nat} {z:Nat→Nat} (hz:∀i,i<n→z i<2^32) (hn:n<2^40) (K:Nat) (pre:aC):aA P sn K [.aj 1 n (ay z)] pre (aG (.int .i64 (bu (val n z):Nat)) []):=by
 refine bJ hT (aH ON fN) hm ahQ rfl (of_decide_eq_true (by kernel_rfl)) rfl 30 XM (fun _=>?_) K pre
 have hnl:nl (val n z)≤n:=cT.2 (ff hz)
 simp only[aa.all,ax,jd,beq_iff_eq,beq_eq_false_iff_ne,ne_eq]
 generalize val n z=N at*
 refine⟨⟨fG hz,by omega⟩,fun h=>bt ?_,fun h=>?_⟩
 ·have:N=0:=by
   rcases Nat.eq_zero_or_pos N with h1|h1
   ·exact h1
   ·have:=fB.2 (show N≠0 by omega);omega
  simp[this,bu]
 ·have h0:N≠0:=fB.1 (by omega)
  have hp:=fB.2 h0
  have e:IntKind.i64.wrap ((nl N:Int)-1)=((nl N-1:Nat):Int):=by rw[wrap_i64 (by omega) (by omega)];omega
  rw[e,Int.toNat_natCast,Int.toNat_natCast]
  have hl:=cZ (N:=N) (i:=nl N-1)
  have hb:=Qi h0
  have h32:bu (az N (nl N-1))≤32:=iH.2 hl
  refine⟨⟨by omega,by omega⟩,bt ?_⟩
  rw[hb,wrap_i64 (x:=32*((nl N-1:Nat):Int)) (by omega) (by omega),wrap_i64 (by omega) (by omega)]
  omega
def Kq:Spec:=bE fun l=>match l with
 |[.int .u32 x]=>some (aG (.int .i64 (32-bu x.toNat:Nat)) [0≤x∧x<2^32])
 |_=>none
theorem VD:∀K args pre r,Kq K args pre=some r→aA P x3 K args pre r:=by
 refine bX fun K args r hk hs _=>?_
 split at hs
 ·rename_i x
  simp only[Option.some.injEq]at hs
  subst hs
  intro need
  obtain⟨h1,h2⟩:0≤x∧x<2^32:=need
  obtain⟨y,rfl⟩:=Int.eq_ofNat_of_zero_le h1
  exact Q0 (x:=y) (by omega) K [] trivial
 ·simp at hs
def H9 (N n:Nat):cU:=aG (.int .i64 (bu N:Nat)) [n<2^40]
theorem Pf:∀K args pre r,bE (kQ H9) K args pre=some r→aA P sn K args pre r:=
 bX (tA fun _ _ K hz need=>U3 hz need K [])
end Go.Am.B
