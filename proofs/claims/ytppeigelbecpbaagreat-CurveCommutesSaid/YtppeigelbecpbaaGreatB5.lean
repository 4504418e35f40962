/- bits.Len32, bits.LeadingZeros32, natural.Bits, slices.Clone, slices.Equal. -/
import Derived.Test.YtppeigelbecpbaaGreatB4
set_option linter.unusedVariables false
namespace Go.Am.B
open Go Go.Am.N AV
theorem acq:aO P tV A8 (au A8):=aQ Wk (by kernel_rfl) (by kernel_rfl) (by kernel_rfl)
theorem Vh:aO P zA AK (au AK):=aQ ZI (by kernel_rfl) (by kernel_rfl) (by kernel_rfl)
theorem abA:aO P uu AH (au AH):=aQ Rs (by kernel_rfl) (by kernel_rfl) (by kernel_rfl)
abbrev kS:ByteArray:=⟨((List.range 256).map fun i=>UInt8.ofNat (br i)).toArray⟩
def IB:Spec:=bC fun l=>match l with
 |[.int .u32 x]=>some (aK (.int .i64 (br x.toNat:Nat)) [0≤x∧x<2^32])
 |_=>none
theorem RG {x:Nat}:bF T [] [4,8] 30 A8 (au A8) ⟨aN 0 [.int .u32 x],[],0⟩=
  some (aa.fork (decide ((↑x:Int)≥(65536:Int))) (aa.ag [(0:Int)≤(16:Int)] (aa.fork (decide ((↑x:Int).fdiv ((2:Int)^min (Int.toNat (16:Int)) IntKind.u32.bits)≥(256:Int))) (aa.ag [(0:Int)≤(8:Int)] (aa.ag [(0:Int)≤IntKind.u8.wrap (((↑x:Int).fdiv ((2:Int)^min (Int.toNat (16:Int)) IntKind.u32.bits)).fdiv ((2:Int)^min (Int.toNat (8:Int)) IntKind.u32.bits))∧IntKind.u8.wrap (((↑x:Int).fdiv ((2:Int)^min (Int.toNat (16:Int)) IntKind.u32.bits)).fdiv ((2:Int)^min (Int.toNat (8:Int)) IntKind.u32.bits))<(↑kS.size:Int)] (aa.leaf aj.ret [int IntKind.i64 (IntKind.i64.wrap (IntKind.i64.wrap ((16:Int)+(8:Int))+IntKind.i64.wrap (↑(mS kS (IntKind.u8.wrap (((↑x:Int).fdiv ((2:Int)^min (Int.toNat (16:Int)) IntKind.u32.bits)).fdiv ((2:Int)^min (Int.toNat (8:Int)) IntKind.u32.bits))).toNat):Int)))]))) (aa.ag [(0:Int)≤IntKind.u8.wrap ((↑x:Int).fdiv ((2:Int)^min (Int.toNat (16:Int)) IntKind.u32.bits))∧IntKind.u8.wrap ((↑x:Int).fdiv ((2:Int)^min (Int.toNat (16:Int)) IntKind.u32.bits))<(↑kS.size:Int)] (aa.leaf aj.ret [int IntKind.i64 (IntKind.i64.wrap ((16:Int)+IntKind.i64.wrap (↑(mS kS (IntKind.u8.wrap ((↑x:Int).fdiv ((2:Int)^min (Int.toNat (16:Int)) IntKind.u32.bits))).toNat):Int)))])))) (aa.fork (decide ((↑x:Int)≥(256:Int))) (aa.ag [(0:Int)≤(8:Int)] (aa.ag [(0:Int)≤IntKind.u8.wrap ((↑x:Int).fdiv ((2:Int)^min (Int.toNat (8:Int)) IntKind.u32.bits))∧IntKind.u8.wrap ((↑x:Int).fdiv ((2:Int)^min (Int.toNat (8:Int)) IntKind.u32.bits))<(↑kS.size:Int)] (aa.leaf aj.ret [int IntKind.i64 (IntKind.i64.wrap (IntKind.i64.wrap ((0:Int)+(8:Int))+IntKind.i64.wrap (↑(mS kS (IntKind.u8.wrap ((↑x:Int).fdiv ((2:Int)^min (Int.toNat (8:Int)) IntKind.u32.bits))).toNat):Int)))]))) (aa.ag [(0:Int)≤IntKind.u8.wrap (↑x:Int)∧IntKind.u8.wrap (↑x:Int)<(↑kS.size:Int)] (aa.leaf aj.ret [int IntKind.i64 (IntKind.i64.wrap ((0:Int)+IntKind.i64.wrap (↑(mS kS (IntKind.u8.wrap (↑x:Int)).toNat):Int)))])))):=by kernel_rfl
theorem DC {i:Nat} (h:i<256):mS kS i=br i:=by
 have h8:br i≤8:=iI.2 (by omega)
 unfold mS
 have:kS.data[i]?=some (UInt8.ofNat (br i)):=by simp[kS,h]
 rw[this]
 simp only[UInt8.toNat_ofNat']
 omega
theorem R8:kS.size=256:=by
 show(List.map _ (List.range 256)).toArray.size=256
 simp
theorem AW {x:Nat} {s:Int} (hs:0≤s) (h:s<32):(x:Int).fdiv (2^min s.toNat IntKind.u32.bits)=((x/2^s.toNat:Nat):Int):=by
 have:IntKind.u32.bits=32:=rfl
 rw[this,Nat.min_eq_left (by omega),Int.fdiv_eq_ediv_of_nonneg _ (by exact Int.le_of_lt (Int.pow_pos (by decide)))]
 simp
theorem DJ {x:Nat} (h:x<256):IntKind.u8.wrap (x:Int)=x:=by
 simp[IntKind.wrap,IntKind.bits,IntKind.signed];omega
theorem aaw {x:Nat} (hx:x<2^32) (K:Nat) (pre:aC):aB P tV K [.int .u32 x] pre (aK (.int .i64 (br x:Nat)) []):=by
 refine bJ hT bk hm acq rfl (of_decide_eq_true (by kernel_rfl)) rfl 30 RG (fun _=>?_) K pre
 have b8:∀i:Nat,i<256→br i≤8:=fun i h=>iI.2 (by omega)
 rw[AW (by decide) (by decide),AW (by decide) (by decide),AW (by decide) (by decide)]
 simp only[aa.all,ax,decide_eq_true_eq,decide_eq_false_iff_not,R8,show Int.toNat 16=16 from rfl,show Int.toNat 8=8 from rfl]
 refine⟨fun h1=>⟨by omega,fun h2=>⟨by omega,?_⟩,fun h2=>?_⟩,fun h1=>⟨fun h2=>⟨by omega,?_⟩,fun h2=>?_⟩⟩
 ·have h3:x/2^16/2^8<256:=by omega
  have e:br x=16+(8+br (x/2^16/2^8)):=by rw[sX (k:=16) (by omega),sX (x:=x/2^16) (k:=8) (by omega)]
  rw[DJ h3]
  refine⟨by omega,bw ?_⟩
  rw[Int.toNat_natCast,DC h3,e]
  have:=b8 _ h3
  rw[wrap_i64 (x:=((br (x/2^16/2^8):Nat):Int)) (by omega) (by omega),wrap_i64 (x:=(16:Int)+8) (by omega) (by omega),wrap_i64 (by omega) (by omega)]
  omega
 ·have h3:x/2^16<256:=by omega
  have e:br x=16+br (x/2^16):=by rw[sX (k:=16) (by omega)]
  rw[DJ h3]
  refine⟨by omega,bw ?_⟩
  rw[Int.toNat_natCast,DC h3,e]
  have:=b8 _ h3
  rw[wrap_i64 (x:=((br (x/2^16):Nat):Int)) (by omega) (by omega),wrap_i64 (by omega) (by omega)]
  omega
 ·have h3:x/2^8<256:=by omega
  have e:br x=8+br (x/2^8):=by rw[sX (k:=8) (by omega)]
  rw[DJ h3]
  refine⟨by omega,bw ?_⟩
  rw[Int.toNat_natCast,DC h3,e]
  have:=b8 _ h3
  rw[wrap_i64 (x:=((br (x/2^8):Nat):Int)) (by omega) (by omega),wrap_i64 (x:=(0:Int)+8) (by omega) (by omega),wrap_i64 (by omega) (by omega)]
  omega
 ·have h3:x<256:=by omega
  rw[DJ h3]
  refine⟨by omega,bw ?_⟩
  rw[Int.toNat_natCast,DC h3]
  have:=b8 _ h3
  rw[wrap_i64 (x:=((br x:Nat):Int)) (by omega) (by omega),wrap_i64 (by omega) (by omega)]
  omega
theorem Mb:∀K args pre r,IB K args pre=some r→aB P tV K args pre r:=by
 refine bV fun K args r hk hs _=>?_
 split at hs
 ·rename_i x
  simp only[Option.some.injEq]at hs
  subst hs
  intro need
  obtain⟨h1,h2⟩:0≤x∧x<2^32:=need
  obtain⟨y,rfl⟩:=Int.eq_ofNat_of_zero_le h1
  exact aaw (x:=y) (by omega) K [] trivial
 ·simp at hs
theorem agN {x:Nat}:bF T [(tV,IB)] [] 30 AK (au AK) ⟨aN 0 [.int .u32 x],[],0⟩=
  some (aa.ag [(0:Int)≤(↑x:Int)∧(↑x:Int)<(2:Int)^32] (aa.leaf aj.ret [int IntKind.i64 (IntKind.i64.wrap ((32:Int)-(↑(br (↑x:Int).toNat):Int)))])):=by kernel_rfl
theorem YJ {n:Nat} {z:Nat→Nat}:bF T ((tV,IB)::G1) [7] 30 AH (au AH) ⟨aN 0 [.ak 1 n (ay z)],[],0⟩=
  some (aa.ag [dB n (ay z),n<2^62] (aa.fork ((↑(nl (val n fun(i:Nat)↦numOf (ay z i))):Int)==(0:Int)) (aa.leaf aj.ret [int IntKind.i64 (0:Int)]) (aa.ag [(0:Int)≤IntKind.i64.wrap ((↑(nl (val n fun(i:Nat)↦numOf (ay z i))):Int)-(1:Int))∧(IntKind.i64.wrap ((↑(nl (val n fun(i:Nat)↦numOf (ay z i))):Int)-(1:Int))).toNat<nl (val n fun(i:Nat)↦numOf (ay z i)),(0:Int)≤(↑(az (val n fun(i:Nat)↦numOf (ay z i)) (IntKind.i64.wrap ((↑(nl (val n fun(i:Nat)↦numOf (ay z i))):Int)-(1:Int))).toNat):Int)∧(↑(az (val n fun(i:Nat)↦numOf (ay z i)) (IntKind.i64.wrap ((↑(nl (val n fun(i:Nat)↦numOf (ay z i))):Int)-(1:Int))).toNat):Int)<(2:Int)^32] (aa.leaf aj.ret [int IntKind.i64 (IntKind.i64.wrap (IntKind.i64.wrap ((32:Int)*IntKind.i64.wrap ((↑(nl (val n fun(i:Nat)↦numOf (ay z i))):Int)-(1:Int)))+(↑(br (↑(az (val n fun(i:Nat)↦numOf (ay z i)) (IntKind.i64.wrap ((↑(nl (val n fun(i:Nat)↦numOf (ay z i))):Int)-(1:Int))).toNat):Int).toNat):Int)))])))):=by kernel_rfl
theorem ajb {x:Nat} (hx:x<2^32) (K:Nat) (pre:aC):aB P zA K [.int .u32 x] pre (aK (.int .i64 (32-br x:Nat)) []):=by
 refine bJ hT (aG Mb bk) hm Vh rfl (of_decide_eq_true (by kernel_rfl)) rfl 30 agN (fun _=>?_) K pre
 have h1:br x≤32:=iI.2 hx
 simp only[aa.all,ax]
 refine⟨by omega,bw ?_⟩
 rw[Int.toNat_natCast,wrap_i64 (by omega) (by omega)];omega
theorem UY {n:Nat} {z:Nat→Nat} (hz:∀i,i<n→z i<2^32) (hn:n<2^40) (K:Nat) (pre:aC):aB P uu K [.ak 1 n (ay z)] pre (aK (.int .i64 (br (val n z):Nat)) []):=by
 refine bJ hT (aG Mb gj) hm abA rfl (of_decide_eq_true (by kernel_rfl)) rfl 30 YJ (fun _=>?_) K pre
 have hnl:nl (val n z)≤n:=cT.2 (fq hz)
 simp only[aa.all,ax,jn,beq_iff_eq,beq_eq_false_iff_ne,ne_eq]
 generalize val n z=N at*
 refine⟨⟨fR hz,by omega⟩,fun h=>bw ?_,fun h=>?_⟩
 ·have:N=0:=by
   rcases Nat.eq_zero_or_pos N with h1|h1
   ·exact h1
   ·have:=fY.2 (show N≠0 by omega);omega
  simp[this,br]
 ·have h0:N≠0:=fY.1 (by omega)
  have hp:=fY.2 h0
  have e:IntKind.i64.wrap ((nl N:Int)-1)=((nl N-1:Nat):Int):=by rw[wrap_i64 (by omega) (by omega)];omega
  rw[e,Int.toNat_natCast,Int.toNat_natCast]
  have hl:=de (N:=N) (i:=nl N-1)
  have hb:=NX h0
  have h32:br (az N (nl N-1))≤32:=iI.2 hl
  refine⟨⟨by omega,by omega⟩,bw ?_⟩
  rw[hb,wrap_i64 (x:=32*((nl N-1:Nat):Int)) (by omega) (by omega),wrap_i64 (by omega) (by omega)]
  omega
def Ns:Spec:=bC fun l=>match l with
 |[.int .u32 x]=>some (aK (.int .i64 (32-br x.toNat:Nat)) [0≤x∧x<2^32])
 |_=>none
theorem Wp:∀K args pre r,Ns K args pre=some r→aB P zA K args pre r:=by
 refine bV fun K args r hk hs _=>?_
 split at hs
 ·rename_i x
  simp only[Option.some.injEq]at hs
  subst hs
  intro need
  obtain⟨h1,h2⟩:0≤x∧x<2^32:=need
  obtain⟨y,rfl⟩:=Int.eq_ofNat_of_zero_le h1
  exact ajb (x:=y) (by omega) K [] trivial
 ·simp at hs
def Hx (N n:Nat):cJ:=aK (.int .i64 (br N:Nat)) [n<2^40]
theorem Rb:∀K args pre r,bC (kW Hx) K args pre=some r→aB P uu K args pre r:=
 bV (s4 fun _ _ K hz need=>UY hz need K [])
end Go.Am.B
