/- bits.Len32, bits.LeadingZeros32, natural.Bits, slices.Clone, slices.Equal. -/
import Derived.Test.YtppeigelbecpbaaGreatB4
set_option linter.unusedVariables false
namespace Go.Am.B
open Go Go.Am.N AV
theorem ae2:aO P p7 xB (aq xB):=aP afV (by kernel_rfl) (by kernel_rfl) (by kernel_rfl)
theorem Wm:aO P vS wj (aq wj):=aP agv (by kernel_rfl) (by kernel_rfl) (by kernel_rfl)
theorem Xt:aO P q9 u5 (aq u5):=aP aeY (by kernel_rfl) (by kernel_rfl) (by kernel_rfl)
abbrev js:ByteArray:=⟨((List.range 256).map fun i=>UInt8.ofNat (bp i)).toArray⟩
def CL:Spec:=bA fun l=>match l with
 |[.int .u32 x]=>some (aF (.int .i64 (bp x.toNat:Nat)) [0≤x∧x<2^32])
 |_=>none
theorem SW {x:Nat}:bu T [] [4,8] 30 xB (aq xB) ⟨aM 0 [.int .u32 x],[],0⟩=
  some (aa.fork (decide ((↑x:Int)≥(65536:Int))) (aa.af [(0:Int)≤(16:Int)] (aa.fork (decide ((↑x:Int).fdiv ((2:Int)^min (Int.toNat (16:Int)) IntKind.u32.bits)≥(256:Int))) (aa.af [(0:Int)≤(8:Int)] (aa.af [(0:Int)≤IntKind.u8.wrap (((↑x:Int).fdiv ((2:Int)^min (Int.toNat (16:Int)) IntKind.u32.bits)).fdiv ((2:Int)^min (Int.toNat (8:Int)) IntKind.u32.bits))∧IntKind.u8.wrap (((↑x:Int).fdiv ((2:Int)^min (Int.toNat (16:Int)) IntKind.u32.bits)).fdiv ((2:Int)^min (Int.toNat (8:Int)) IntKind.u32.bits))<(↑js.size:Int)] (aa.leaf aj.ret [int IntKind.i64 (IntKind.i64.wrap (IntKind.i64.wrap ((16:Int)+(8:Int))+IntKind.i64.wrap (↑(kQ js (IntKind.u8.wrap (((↑x:Int).fdiv ((2:Int)^min (Int.toNat (16:Int)) IntKind.u32.bits)).fdiv ((2:Int)^min (Int.toNat (8:Int)) IntKind.u32.bits))).toNat):Int)))]))) (aa.af [(0:Int)≤IntKind.u8.wrap ((↑x:Int).fdiv ((2:Int)^min (Int.toNat (16:Int)) IntKind.u32.bits))∧IntKind.u8.wrap ((↑x:Int).fdiv ((2:Int)^min (Int.toNat (16:Int)) IntKind.u32.bits))<(↑js.size:Int)] (aa.leaf aj.ret [int IntKind.i64 (IntKind.i64.wrap ((16:Int)+IntKind.i64.wrap (↑(kQ js (IntKind.u8.wrap ((↑x:Int).fdiv ((2:Int)^min (Int.toNat (16:Int)) IntKind.u32.bits))).toNat):Int)))])))) (aa.fork (decide ((↑x:Int)≥(256:Int))) (aa.af [(0:Int)≤(8:Int)] (aa.af [(0:Int)≤IntKind.u8.wrap ((↑x:Int).fdiv ((2:Int)^min (Int.toNat (8:Int)) IntKind.u32.bits))∧IntKind.u8.wrap ((↑x:Int).fdiv ((2:Int)^min (Int.toNat (8:Int)) IntKind.u32.bits))<(↑js.size:Int)] (aa.leaf aj.ret [int IntKind.i64 (IntKind.i64.wrap (IntKind.i64.wrap ((0:Int)+(8:Int))+IntKind.i64.wrap (↑(kQ js (IntKind.u8.wrap ((↑x:Int).fdiv ((2:Int)^min (Int.toNat (8:Int)) IntKind.u32.bits))).toNat):Int)))]))) (aa.af [(0:Int)≤IntKind.u8.wrap (↑x:Int)∧IntKind.u8.wrap (↑x:Int)<(↑js.size:Int)] (aa.leaf aj.ret [int IntKind.i64 (IntKind.i64.wrap ((0:Int)+IntKind.i64.wrap (↑(kQ js (IntKind.u8.wrap (↑x:Int)).toNat):Int)))])))):=by kernel_rfl
theorem z8 {i:Nat} (h:i<256):kQ js i=bp i:=by
 have h8:bp i≤8:=gq.2 (by omega)
 unfold kQ
 have:js.data[i]?=some (UInt8.ofNat (bp i)):=by simp[js,h]
 rw[this]
 simp only[UInt8.toNat_ofNat']
 omega
theorem VK:js.size=256:=by
 show(List.map _ (List.range 256)).toArray.size=256
 simp
theorem yd {x:Nat} {s:Int} (hs:0≤s) (h:s<32):(x:Int).fdiv (2^min s.toNat IntKind.u32.bits)=((x/2^s.toNat:Nat):Int):=by
 have:IntKind.u32.bits=32:=rfl
 rw[this,Nat.min_eq_left (by omega),Int.fdiv_eq_ediv_of_nonneg _ (by exact Int.le_of_lt (Int.pow_pos (by decide)))]
 simp
theorem Ar {x:Nat} (h:x<256):IntKind.u8.wrap (x:Int)=x:=by
 simp[IntKind.wrap,IntKind.bits,IntKind.signed];omega
theorem aa0 {x:Nat} (hx:x<2^32) (K:Nat) (pre:aA):az P p7 K [.int .u32 x] pre (aF (.int .i64 (bp x:Nat)) []):=by
 refine bC hT aX hm ae2 rfl (of_decide_eq_true (by kernel_rfl)) rfl 30 SW (fun _=>?_) K pre
 have b8:∀i:Nat,i<256→bp i≤8:=fun i h=>gq.2 (by omega)
 rw[yd (by decide) (by decide),yd (by decide) (by decide),yd (by decide) (by decide)]
 simp only[aa.all,ax,decide_eq_true_eq,decide_eq_false_iff_not,VK,show Int.toNat 16=16 from rfl,show Int.toNat 8=8 from rfl]
 refine⟨fun h1=>⟨by omega,fun h2=>⟨by omega,?_⟩,fun h2=>?_⟩,fun h1=>⟨fun h2=>⟨by omega,?_⟩,fun h2=>?_⟩⟩
 ·have h3:x/2^16/2^8<256:=by omega
  have e:bp x=16+(8+bp (x/2^16/2^8)):=by rw[qS (k:=16) (by omega),qS (x:=x/2^16) (k:=8) (by omega)]
  rw[Ar h3]
  refine⟨by omega,br ?_⟩
  rw[Int.toNat_natCast,z8 h3,e]
  have:=b8 _ h3
  rw[wrap_i64 (x:=((bp (x/2^16/2^8):Nat):Int)) (by omega) (by omega),wrap_i64 (x:=(16:Int)+8) (by omega) (by omega),wrap_i64 (by omega) (by omega)]
  omega
 ·have h3:x/2^16<256:=by omega
  have e:bp x=16+bp (x/2^16):=by rw[qS (k:=16) (by omega)]
  rw[Ar h3]
  refine⟨by omega,br ?_⟩
  rw[Int.toNat_natCast,z8 h3,e]
  have:=b8 _ h3
  rw[wrap_i64 (x:=((bp (x/2^16):Nat):Int)) (by omega) (by omega),wrap_i64 (by omega) (by omega)]
  omega
 ·have h3:x/2^8<256:=by omega
  have e:bp x=8+bp (x/2^8):=by rw[qS (k:=8) (by omega)]
  rw[Ar h3]
  refine⟨by omega,br ?_⟩
  rw[Int.toNat_natCast,z8 h3,e]
  have:=b8 _ h3
  rw[wrap_i64 (x:=((bp (x/2^8):Nat):Int)) (by omega) (by omega),wrap_i64 (x:=(0:Int)+8) (by omega) (by omega),wrap_i64 (by omega) (by omega)]
  omega
 ·have h3:x<256:=by omega
  rw[Ar h3]
  refine⟨by omega,br ?_⟩
  rw[Int.toNat_natCast,z8 h3]
  have:=b8 _ h3
  rw[wrap_i64 (x:=((bp x:Nat):Int)) (by omega) (by omega),wrap_i64 (by omega) (by omega)]
  omega
theorem LQ:∀K args pre r,CL K args pre=some r→az P p7 K args pre r:=by
 refine bS fun K args r hk hs _=>?_
 split at hs
 ·rename_i x
  simp only[Option.some.injEq]at hs
  subst hs
  intro need
  obtain⟨h1,h2⟩:0≤x∧x<2^32:=need
  obtain⟨y,rfl⟩:=Int.eq_ofNat_of_zero_le h1
  exact aa0 (x:=y) (by omega) K [] trivial
 ·simp at hs
theorem RD {x:Nat}:bu T [(p7,CL)] [] 30 wj (aq wj) ⟨aM 0 [.int .u32 x],[],0⟩=
  some (aa.af [(0:Int)≤(↑x:Int)∧(↑x:Int)<(2:Int)^32] (aa.leaf aj.ret [int IntKind.i64 (IntKind.i64.wrap ((32:Int)-(↑(bp (↑x:Int).toNat):Int)))])):=by kernel_rfl
theorem QV {n:Nat} {z:Nat→Nat}:bu T ((p7,CL)::G1) [7] 30 u5 (aq u5) ⟨aM 0 [.ag 1 n (au z)],[],0⟩=
  some (aa.af [cT n (au z),n<2^62] (aa.fork ((↑(nl (val n fun(i:Nat)↦numOf (au z i))):Int)==(0:Int)) (aa.leaf aj.ret [int IntKind.i64 (0:Int)]) (aa.af [(0:Int)≤IntKind.i64.wrap ((↑(nl (val n fun(i:Nat)↦numOf (au z i))):Int)-(1:Int))∧(IntKind.i64.wrap ((↑(nl (val n fun(i:Nat)↦numOf (au z i))):Int)-(1:Int))).toNat<nl (val n fun(i:Nat)↦numOf (au z i)),(0:Int)≤(↑(ay (val n fun(i:Nat)↦numOf (au z i)) (IntKind.i64.wrap ((↑(nl (val n fun(i:Nat)↦numOf (au z i))):Int)-(1:Int))).toNat):Int)∧(↑(ay (val n fun(i:Nat)↦numOf (au z i)) (IntKind.i64.wrap ((↑(nl (val n fun(i:Nat)↦numOf (au z i))):Int)-(1:Int))).toNat):Int)<(2:Int)^32] (aa.leaf aj.ret [int IntKind.i64 (IntKind.i64.wrap (IntKind.i64.wrap ((32:Int)*IntKind.i64.wrap ((↑(nl (val n fun(i:Nat)↦numOf (au z i))):Int)-(1:Int)))+(↑(bp (↑(ay (val n fun(i:Nat)↦numOf (au z i)) (IntKind.i64.wrap ((↑(nl (val n fun(i:Nat)↦numOf (au z i))):Int)-(1:Int))).toNat):Int).toNat):Int)))])))):=by kernel_rfl
theorem SG {x:Nat} (hx:x<2^32) (K:Nat) (pre:aA):az P vS K [.int .u32 x] pre (aF (.int .i64 (32-bp x:Nat)) []):=by
 refine bC hT (aD LQ aX) hm Wm rfl (of_decide_eq_true (by kernel_rfl)) rfl 30 RD (fun _=>?_) K pre
 have h1:bp x≤32:=gq.2 hx
 simp only[aa.all,ax]
 refine⟨by omega,br ?_⟩
 rw[Int.toNat_natCast,wrap_i64 (by omega) (by omega)];omega
theorem NW {n:Nat} {z:Nat→Nat} (hz:∀i,i<n→z i<2^32) (hn:n<2^40) (K:Nat) (pre:aA):az P q9 K [.ag 1 n (au z)] pre (aF (.int .i64 (bp (val n z):Nat)) []):=by
 refine bC hT (aD LQ fu) hm Xt rfl (of_decide_eq_true (by kernel_rfl)) rfl 30 QV (fun _=>?_) K pre
 have hnl:nl (val n z)≤n:=cI.2 (ey hz)
 simp only[aa.all,ax,ia,beq_iff_eq,beq_eq_false_iff_ne,ne_eq]
 generalize val n z=N at*
 refine⟨⟨fc hz,by omega⟩,fun h=>br ?_,fun h=>?_⟩
 ·have:N=0:=by
   rcases Nat.eq_zero_or_pos N with h1|h1
   ·exact h1
   ·have:=eV.2 (show N≠0 by omega);omega
  simp[this,bp]
 ·have h0:N≠0:=eV.1 (by omega)
  have hp:=eV.2 h0
  have e:IntKind.i64.wrap ((nl N:Int)-1)=((nl N-1:Nat):Int):=by rw[wrap_i64 (by omega) (by omega)];omega
  rw[e,Int.toNat_natCast,Int.toNat_natCast]
  have hl:=cM (N:=N) (i:=nl N-1)
  have hb:=KI h0
  have h32:bp (ay N (nl N-1))≤32:=gq.2 hl
  refine⟨⟨by omega,by omega⟩,br ?_⟩
  rw[hb,wrap_i64 (x:=32*((nl N-1:Nat):Int)) (by omega) (by omega),wrap_i64 (by omega) (by omega)]
  omega
def JG:Spec:=bA fun l=>match l with
 |[.int .u32 x]=>some (aF (.int .i64 (32-bp x.toNat:Nat)) [0≤x∧x<2^32])
 |_=>none
theorem aeD:∀K args pre r,JG K args pre=some r→az P vS K args pre r:=by
 refine bS fun K args r hk hs _=>?_
 split at hs
 ·rename_i x
  simp only[Option.some.injEq]at hs
  subst hs
  intro need
  obtain⟨h1,h2⟩:0≤x∧x<2^32:=need
  obtain⟨y,rfl⟩:=Int.eq_ofNat_of_zero_le h1
  exact SG (x:=y) (by omega) K [] trivial
 ·simp at hs
def CS (N n:Nat):cJ:=aF (.int .i64 (bp N:Nat)) [n<2^40]
theorem Kq:∀K args pre r,bA (jA CS) K args pre=some r→az P q9 K args pre r:=
 bS (qx fun _ _ K hz need=>NW hz need K [])
end Go.Am.B
