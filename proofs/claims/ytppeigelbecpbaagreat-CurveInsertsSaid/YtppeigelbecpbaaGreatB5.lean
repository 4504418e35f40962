/- bits.Len32, bits.LeadingZeros32, natural.Bits, slices.Clone, slices.Equal. -/
import Derived.Test.YtppeigelbecpbaaGreatB4
set_option linter.unusedVariables false
namespace Go.Am.B
open Go Go.Am.N AV
theorem agr:aP P uv Ae (au Ae):=aQ Ug (by kernel_rfl) (by kernel_rfl) (by kernel_rfl)
theorem ae2:aP P vF Bh (au Bh):=aQ afE (by kernel_rfl) (by kernel_rfl) (by kernel_rfl)
theorem ajp:aP P uD wv (au wv):=aQ ab1 (by kernel_rfl) (by kernel_rfl) (by kernel_rfl)
abbrev kP:ByteArray:=⟨((List.range 256).map fun i=>UInt8.ofNat (bu i)).toArray⟩
def Iz:Spec:=bE fun l=>match l with
 |[.int .u32 x]=>some (aH (.int .i64 (bu x.toNat:Nat)) [0≤x∧x<2^32])
 |_=>none
theorem abo {x:Nat}:bC T [] [4,8] 30 Ae (au Ae) ⟨aN 0 [.int .u32 x],[],0⟩=
  some (aa.fork (decide ((↑x:Int)≥(65536:Int))) (aa.ag [(0:Int)≤(16:Int)] (aa.fork (decide ((↑x:Int).fdiv ((2:Int)^min (Int.toNat (16:Int)) IntKind.u32.bits)≥(256:Int))) (aa.ag [(0:Int)≤(8:Int)] (aa.ag [(0:Int)≤IntKind.u8.wrap (((↑x:Int).fdiv ((2:Int)^min (Int.toNat (16:Int)) IntKind.u32.bits)).fdiv ((2:Int)^min (Int.toNat (8:Int)) IntKind.u32.bits))∧IntKind.u8.wrap (((↑x:Int).fdiv ((2:Int)^min (Int.toNat (16:Int)) IntKind.u32.bits)).fdiv ((2:Int)^min (Int.toNat (8:Int)) IntKind.u32.bits))<(↑kP.size:Int)] (aa.leaf ak.ret [int IntKind.i64 (IntKind.i64.wrap (IntKind.i64.wrap ((16:Int)+(8:Int))+IntKind.i64.wrap (↑(mA kP (IntKind.u8.wrap (((↑x:Int).fdiv ((2:Int)^min (Int.toNat (16:Int)) IntKind.u32.bits)).fdiv ((2:Int)^min (Int.toNat (8:Int)) IntKind.u32.bits))).toNat):Int)))]))) (aa.ag [(0:Int)≤IntKind.u8.wrap ((↑x:Int).fdiv ((2:Int)^min (Int.toNat (16:Int)) IntKind.u32.bits))∧IntKind.u8.wrap ((↑x:Int).fdiv ((2:Int)^min (Int.toNat (16:Int)) IntKind.u32.bits))<(↑kP.size:Int)] (aa.leaf ak.ret [int IntKind.i64 (IntKind.i64.wrap ((16:Int)+IntKind.i64.wrap (↑(mA kP (IntKind.u8.wrap ((↑x:Int).fdiv ((2:Int)^min (Int.toNat (16:Int)) IntKind.u32.bits))).toNat):Int)))])))) (aa.fork (decide ((↑x:Int)≥(256:Int))) (aa.ag [(0:Int)≤(8:Int)] (aa.ag [(0:Int)≤IntKind.u8.wrap ((↑x:Int).fdiv ((2:Int)^min (Int.toNat (8:Int)) IntKind.u32.bits))∧IntKind.u8.wrap ((↑x:Int).fdiv ((2:Int)^min (Int.toNat (8:Int)) IntKind.u32.bits))<(↑kP.size:Int)] (aa.leaf ak.ret [int IntKind.i64 (IntKind.i64.wrap (IntKind.i64.wrap ((0:Int)+(8:Int))+IntKind.i64.wrap (↑(mA kP (IntKind.u8.wrap ((↑x:Int).fdiv ((2:Int)^min (Int.toNat (8:Int)) IntKind.u32.bits))).toNat):Int)))]))) (aa.ag [(0:Int)≤IntKind.u8.wrap (↑x:Int)∧IntKind.u8.wrap (↑x:Int)<(↑kP.size:Int)] (aa.leaf ak.ret [int IntKind.i64 (IntKind.i64.wrap ((0:Int)+IntKind.i64.wrap (↑(mA kP (IntKind.u8.wrap (↑x:Int)).toNat):Int)))])))):=by kernel_rfl
theorem Ck {i:Nat} (h:i<256):mA kP i=bu i:=by
 have h8:bu i≤8:=iJ.2 (by omega)
 unfold mA
 have:kP.data[i]?=some (UInt8.ofNat (bu i)):=by simp[kP,h]
 rw[this]
 simp only[UInt8.toNat_ofNat']
 omega
theorem SE:kP.size=256:=by
 show(List.map _ (List.range 256)).toArray.size=256
 simp
theorem xj {x:Nat} {s:Int} (hs:0≤s) (h:s<32):(x:Int).fdiv (2^min s.toNat IntKind.u32.bits)=((x/2^s.toNat:Nat):Int):=by
 have:IntKind.u32.bits=32:=rfl
 rw[this,Nat.min_eq_left (by omega),Int.fdiv_eq_ediv_of_nonneg _ (by exact Int.le_of_lt (Int.pow_pos (by decide)))]
 simp
theorem Dn {x:Nat} (h:x<256):IntKind.u8.wrap (x:Int)=x:=by
 simp[IntKind.wrap,IntKind.bits,IntKind.signed];omega
theorem ab9 {x:Nat} (hx:x<2^32) (K:Nat) (pre:aC):aA P uv K [.int .u32 x] pre (aH (.int .i64 (bu x:Nat)) []):=by
 refine bJ hT bq hm agr rfl (of_decide_eq_true (by kernel_rfl)) rfl 30 abo (fun _=>?_) K pre
 have b8:∀i:Nat,i<256→bu i≤8:=fun i h=>iJ.2 (by omega)
 rw[xj (by decide) (by decide),xj (by decide) (by decide),xj (by decide) (by decide)]
 simp only[aa.all,ax,decide_eq_true_eq,decide_eq_false_iff_not,SE,show Int.toNat 16=16 from rfl,show Int.toNat 8=8 from rfl]
 refine⟨fun h1=>⟨by omega,fun h2=>⟨by omega,?_⟩,fun h2=>?_⟩,fun h1=>⟨fun h2=>⟨by omega,?_⟩,fun h2=>?_⟩⟩
 ·have h3:x/2^16/2^8<256:=by omega
  have e:bu x=16+(8+bu (x/2^16/2^8)):=by rw[tK (k:=16) (by omega),tK (x:=x/2^16) (k:=8) (by omega)]
  rw[Dn h3]
  refine⟨by omega,bt ?_⟩
  rw[Int.toNat_natCast,Ck h3,e]
  have:=b8 _ h3
  rw[wrap_i64 (x:=((bu (x/2^16/2^8):Nat):Int)) (by omega) (by omega),wrap_i64 (x:=(16:Int)+8) (by omega) (by omega),wrap_i64 (by omega) (by omega)]
  omega
 ·have h3:x/2^16<256:=by omega
  have e:bu x=16+bu (x/2^16):=by rw[tK (k:=16) (by omega)]
  rw[Dn h3]
  refine⟨by omega,bt ?_⟩
  rw[Int.toNat_natCast,Ck h3,e]
  have:=b8 _ h3
  rw[wrap_i64 (x:=((bu (x/2^16):Nat):Int)) (by omega) (by omega),wrap_i64 (by omega) (by omega)]
  omega
 ·have h3:x/2^8<256:=by omega
  have e:bu x=8+bu (x/2^8):=by rw[tK (k:=8) (by omega)]
  rw[Dn h3]
  refine⟨by omega,bt ?_⟩
  rw[Int.toNat_natCast,Ck h3,e]
  have:=b8 _ h3
  rw[wrap_i64 (x:=((bu (x/2^8):Nat):Int)) (by omega) (by omega),wrap_i64 (x:=(0:Int)+8) (by omega) (by omega),wrap_i64 (by omega) (by omega)]
  omega
 ·have h3:x<256:=by omega
  rw[Dn h3]
  refine⟨by omega,bt ?_⟩
  rw[Int.toNat_natCast,Ck h3]
  have:=b8 _ h3
  rw[wrap_i64 (x:=((bu x:Nat):Int)) (by omega) (by omega),wrap_i64 (by omega) (by omega)]
  omega
theorem Nk:∀K args pre r,Iz K args pre=some r→aA P uv K args pre r:=by
 refine bV fun K args r hk hs _=>?_
 split at hs
 ·rename_i x
  simp only[Option.some.injEq]at hs
  subst hs
  intro need
  obtain⟨h1,h2⟩:0≤x∧x<2^32:=need
  obtain⟨y,rfl⟩:=Int.eq_ofNat_of_zero_le h1
  exact ab9 (x:=y) (by omega) K [] trivial
 ·simp at hs
theorem aeu {x:Nat}:bC T [(uv,Iz)] [] 30 Bh (au Bh) ⟨aN 0 [.int .u32 x],[],0⟩=
  some (aa.ag [(0:Int)≤(↑x:Int)∧(↑x:Int)<(2:Int)^32] (aa.leaf ak.ret [int IntKind.i64 (IntKind.i64.wrap ((32:Int)-(↑(bu (↑x:Int).toNat):Int)))])):=by kernel_rfl
theorem Vz {n:Nat} {z:Nat→Nat}:bC T ((uv,Iz)::G1) [7] 30 wv (au wv) ⟨aN 0 [.aj 1 n (ay z)],[],0⟩=
  some (aa.ag [dy n (ay z),n<2^62] (aa.fork ((↑(nl (val n fun(i:Nat)↦numOf (ay z i))):Int)==(0:Int)) (aa.leaf ak.ret [int IntKind.i64 (0:Int)]) (aa.ag [(0:Int)≤IntKind.i64.wrap ((↑(nl (val n fun(i:Nat)↦numOf (ay z i))):Int)-(1:Int))∧(IntKind.i64.wrap ((↑(nl (val n fun(i:Nat)↦numOf (ay z i))):Int)-(1:Int))).toNat<nl (val n fun(i:Nat)↦numOf (ay z i)),(0:Int)≤(↑(az (val n fun(i:Nat)↦numOf (ay z i)) (IntKind.i64.wrap ((↑(nl (val n fun(i:Nat)↦numOf (ay z i))):Int)-(1:Int))).toNat):Int)∧(↑(az (val n fun(i:Nat)↦numOf (ay z i)) (IntKind.i64.wrap ((↑(nl (val n fun(i:Nat)↦numOf (ay z i))):Int)-(1:Int))).toNat):Int)<(2:Int)^32] (aa.leaf ak.ret [int IntKind.i64 (IntKind.i64.wrap (IntKind.i64.wrap ((32:Int)*IntKind.i64.wrap ((↑(nl (val n fun(i:Nat)↦numOf (ay z i))):Int)-(1:Int)))+(↑(bu (↑(az (val n fun(i:Nat)↦numOf (ay z i)) (IntKind.i64.wrap ((↑(nl (val n fun(i:Nat)↦numOf (ay z i))):Int)-(1:Int))).toNat):Int).toNat):Int)))])))):=by kernel_rfl
theorem UT {x:Nat} (hx:x<2^32) (K:Nat) (pre:aC):aA P vF K [.int .u32 x] pre (aH (.int .i64 (32-bu x:Nat)) []):=by
 refine bJ hT (aG Nk bq) hm ae2 rfl (of_decide_eq_true (by kernel_rfl)) rfl 30 aeu (fun _=>?_) K pre
 have h1:bu x≤32:=iJ.2 hx
 simp only[aa.all,ax]
 refine⟨by omega,bt ?_⟩
 rw[Int.toNat_natCast,wrap_i64 (by omega) (by omega)];omega
theorem aic {n:Nat} {z:Nat→Nat} (hz:∀i,i<n→z i<2^32) (hn:n<2^40) (K:Nat) (pre:aC):aA P uD K [.aj 1 n (ay z)] pre (aH (.int .i64 (bu (val n z):Nat)) []):=by
 refine bJ hT (aG Nk fP) hm ajp rfl (of_decide_eq_true (by kernel_rfl)) rfl 30 Vz (fun _=>?_) K pre
 have hnl:nl (val n z)≤n:=cU.2 (ff hz)
 simp only[aa.all,ax,iU,beq_iff_eq,beq_eq_false_iff_ne,ne_eq]
 generalize val n z=N at*
 refine⟨⟨fD hz,by omega⟩,fun h=>bt ?_,fun h=>?_⟩
 ·have:N=0:=by
   rcases Nat.eq_zero_or_pos N with h1|h1
   ·exact h1
   ·have:=fF.2 (show N≠0 by omega);omega
  simp[this,bu]
 ·have h0:N≠0:=fF.1 (by omega)
  have hp:=fF.2 h0
  have e:IntKind.i64.wrap ((nl N:Int)-1)=((nl N-1:Nat):Int):=by rw[wrap_i64 (by omega) (by omega)];omega
  rw[e,Int.toNat_natCast,Int.toNat_natCast]
  have hl:=cZ (N:=N) (i:=nl N-1)
  have hb:=Nv h0
  have h32:bu (az N (nl N-1))≤32:=iJ.2 hl
  refine⟨⟨by omega,by omega⟩,bt ?_⟩
  rw[hb,wrap_i64 (x:=32*((nl N-1:Nat):Int)) (by omega) (by omega),wrap_i64 (by omega) (by omega)]
  omega
def Jt:Spec:=bE fun l=>match l with
 |[.int .u32 x]=>some (aH (.int .i64 (32-bu x.toNat:Nat)) [0≤x∧x<2^32])
 |_=>none
theorem aaN:∀K args pre r,Jt K args pre=some r→aA P vF K args pre r:=by
 refine bV fun K args r hk hs _=>?_
 split at hs
 ·rename_i x
  simp only[Option.some.injEq]at hs
  subst hs
  intro need
  obtain⟨h1,h2⟩:0≤x∧x<2^32:=need
  obtain⟨y,rfl⟩:=Int.eq_ofNat_of_zero_le h1
  exact UT (x:=y) (by omega) K [] trivial
 ·simp at hs
def Fy (N n:Nat):cV:=aH (.int .i64 (bu N:Nat)) [n<2^40]
theorem L4:∀K args pre r,bE (kO Fy) K args pre=some r→aA P uD K args pre r:=
 bV (um fun _ _ K hz need=>aic hz need K [])
end Go.Am.B
