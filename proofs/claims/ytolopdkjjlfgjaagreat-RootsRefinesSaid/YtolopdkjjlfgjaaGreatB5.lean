/- bits.Len32, bits.LeadingZeros32, natural.Bits, slices.Clone, slices.Equal. -/
import Derived.Test.YtolopdkjjlfgjaaGreatB4
set_option linter.unusedVariables false
namespace Go.Am.B
open Go Go.Am.N AV Proofs.Tryz IntKind
theorem U3:bf 162 f162:=bg func162
theorem agx:bf 184 f184:=bg func184
theorem acd:bf 126 f126:=bg func126
abbrev mV:ByteArray:=⟨((List.range 256).map fun i=>UInt8.ofNat (bV i)).toArray⟩
def FF:Spec:=cu fun l=>match l with
 |[.int .u32 x]=>some (aL (.int .i64 (bV x.toNat:Nat)) [0<=x/\x<2^32])
 |_=>none
theorem aj8 {x:Nat}:b9 T [] [4,8] 30 f162 (aH f162) ⟨aU 0 [.int .u32 x],[],0⟩=
  some (ag.fork (decide ((↑x:Int)>=65536)) (ag.aj [(0:Int)<=16] (ag.fork (decide ((↑x:Int).fdiv ((2:Int)^min (Int.toNat (16:Int)) u32.bits)>=256)) (ag.aj [(0:Int)<=8] (ag.aj [(0:Int)<=u8.wrap (((↑x:Int).fdiv ((2:Int)^min (Int.toNat (16:Int)) u32.bits)).fdiv ((2:Int)^min (Int.toNat (8:Int)) u32.bits))/\u8.wrap (((↑x:Int).fdiv ((2:Int)^min (Int.toNat (16:Int)) u32.bits)).fdiv ((2:Int)^min (Int.toNat (8:Int)) u32.bits))<(↑mV.size:Int)] (ag.leaf aq.ret [int .i64 (i64.wrap (i64.wrap ((16:Int)+8)+i64.wrap (↑(ou mV (u8.wrap (((↑x:Int).fdiv ((2:Int)^min (Int.toNat (16:Int)) u32.bits)).fdiv ((2:Int)^min (Int.toNat (8:Int)) u32.bits))).toNat):Int)))]))) (ag.aj [(0:Int)<=u8.wrap ((↑x:Int).fdiv ((2:Int)^min (Int.toNat (16:Int)) u32.bits))/\u8.wrap ((↑x:Int).fdiv ((2:Int)^min (Int.toNat (16:Int)) u32.bits))<(↑mV.size:Int)] (ag.leaf aq.ret [int .i64 (i64.wrap ((16:Int)+i64.wrap (↑(ou mV (u8.wrap ((↑x:Int).fdiv ((2:Int)^min (Int.toNat (16:Int)) u32.bits))).toNat):Int)))])))) (ag.fork (decide ((↑x:Int)>=256)) (ag.aj [(0:Int)<=8] (ag.aj [(0:Int)<=u8.wrap ((↑x:Int).fdiv ((2:Int)^min (Int.toNat (8:Int)) u32.bits))/\u8.wrap ((↑x:Int).fdiv ((2:Int)^min (Int.toNat (8:Int)) u32.bits))<(↑mV.size:Int)] (ag.leaf aq.ret [int .i64 (i64.wrap (i64.wrap ((0:Int)+8)+i64.wrap (↑(ou mV (u8.wrap ((↑x:Int).fdiv ((2:Int)^min (Int.toNat (8:Int)) u32.bits))).toNat):Int)))]))) (ag.aj [(0:Int)<=u8.wrap (↑x:Int)/\u8.wrap (↑x:Int)<(↑mV.size:Int)] (ag.leaf aq.ret [int .i64 (i64.wrap ((0:Int)+i64.wrap (↑(ou mV (u8.wrap (↑x:Int)).toNat):Int)))])))):=ah
theorem Dw {i:Nat} (h:i<256):ou mV i=bV i:=by
 have h8:bV i<=8:=jZ.2 aa
 unfold ou
 have:mV.data[i]?=some (UInt8.ofNat (bV i)):=by simp[mV,h]
 rw[this]
 simp only[UInt8.toNat_ofNat']
 omega
theorem aaC:mV.size=256:=by
 show(List.map _ (List.range 256)).toArray.size=256
 simp
theorem yq {x:Nat} {s:Int} (hs:0<=s) (h:s<32):(x:Int).fdiv (2^min s.toNat u32.bits)=((x/2^s.toNat:Nat):Int):=by
 have:u32.bits=32:=rfl
 rw[this,Nat.min_eq_left aa,Int.fdiv_eq_ediv_of_nonneg _ (by exact Int.le_of_lt (Int.pow_pos (by decide)))]
 simp
theorem Cm {x:Nat} (h:x<256):u8.wrap (x:Int)=x:=by
 simp[IntKind.wrap,IntKind.bits,IntKind.signed];omega
theorem Uw {x:Nat} (hx:x<2^32) (K:Nat) (pre:aE):aQ P 162 K [.int .u32 x] pre (aL (.int .i64 (bV x:Nat)) []):=by
 refine ck hT cz hm U3 rfl aX rfl 30 aj8 (fun _=>?_) K pre
 have b8:∀i:Nat,i<256->bV i<=8:=fun i h=>jZ.2 aa
 rw[yq (by decide) (by decide),yq (by decide) (by decide),yq (by decide) (by decide)]
 simp only[ag.all,az,bB,bD,aaC,show Int.toNat 16=16 from rfl,show Int.toNat 8=8 from rfl]
 refine⟨fun h1=>⟨aa,fun h2=>⟨aa,?_⟩,fun h2=>?_⟩,fun h1=>⟨fun h2=>⟨aa,?_⟩,fun h2=>?_⟩⟩
 ·have h3:x/2^16/2^8<256:=aa
  have e:bV x=16+(8+bV (x/2^16/2^8)):=by rw[vC (k:=16) aa,vC (x:=x/2^16) (k:=8) aa]
  rw[Cm h3]
  refine⟨aa,cw ?_⟩
  rw[bJ,Dw h3,e]
  have:=b8 _ h3
  rw[wrap_i64 (x:=((bV (x/2^16/2^8):Nat):Int)) aa aa,wrap_i64 (x:=(16:Int)+8) aa aa,wrap_i64 aa aa]
  omega
 ·have h3:x/2^16<256:=aa
  have e:bV x=16+bV (x/2^16):=by rw[vC (k:=16) aa]
  rw[Cm h3]
  refine⟨aa,cw ?_⟩
  rw[bJ,Dw h3,e]
  have:=b8 _ h3
  rw[wrap_i64 (x:=((bV (x/2^16):Nat):Int)) aa aa,wrap_i64 aa aa]
  omega
 ·have h3:x/2^8<256:=aa
  have e:bV x=8+bV (x/2^8):=by rw[vC (k:=8) aa]
  rw[Cm h3]
  refine⟨aa,cw ?_⟩
  rw[bJ,Dw h3,e]
  have:=b8 _ h3
  rw[wrap_i64 (x:=((bV (x/2^8):Nat):Int)) aa aa,wrap_i64 (x:=(0:Int)+8) aa aa,wrap_i64 aa aa]
  omega
 ·have h3:x<256:=aa
  rw[Cm h3]
  refine⟨aa,cw ?_⟩
  rw[bJ,Dw h3]
  have:=b8 _ h3
  rw[wrap_i64 (x:=((bV x:Nat):Int)) aa aa,wrap_i64 aa aa]
  omega
theorem Mc:aY P FF 162:=by
 refine cW fun K args r hk hs _=>?_
 split at hs
 ·rename_i x
  simp only[ay]at hs
  subst hs
  intro need
  obtain⟨h1,h2⟩:0<=x/\x<2^32:=need
  obtain⟨y,rfl⟩:=Int.eq_ofNat_of_zero_le h1
  exact Uw (x:=y) aa K [] trivial
 ·simp at hs
theorem agd {x:Nat}:b9 T [(162,FF)] [] 30 f184 (aH f184) ⟨aU 0 [.int .u32 x],[],0⟩=
  some (ag.aj [(0:Int)<=(↑x:Int)/\(↑x:Int)<2^32] (ag.leaf aq.ret [int .i64 (i64.wrap ((32:Int)-(↑(bV (↑x:Int).toNat):Int)))])):=ah
theorem ZM {n:Nat} {z:Nat->Nat}:b9 T ((162,FF)::G1) [7] 30 f126 (aH f126) ⟨aU 0 [.ak 1 n (aB z)],[],0⟩=
  some (ag.aj [fm n (aB z),n<2^62] (ag.fork ((↑(nl (val n fun(i:Nat)=>numOf (aB z i))):Int)==0) (ag.leaf aq.ret [int .i64 (0:Int)]) (ag.aj [(0:Int)<=i64.wrap ((↑(nl (val n fun(i:Nat)=>numOf (aB z i))):Int)-1)/\(i64.wrap ((↑(nl (val n fun(i:Nat)=>numOf (aB z i))):Int)-1)).toNat<nl (val n fun(i:Nat)=>numOf (aB z i)),(0:Int)<=(↑(aD (val n fun(i:Nat)=>numOf (aB z i)) (i64.wrap ((↑(nl (val n fun(i:Nat)=>numOf (aB z i))):Int)-1)).toNat):Int)/\(↑(aD (val n fun(i:Nat)=>numOf (aB z i)) (i64.wrap ((↑(nl (val n fun(i:Nat)=>numOf (aB z i))):Int)-1)).toNat):Int)<2^32] (ag.leaf aq.ret [int .i64 (i64.wrap (i64.wrap ((32:Int)*i64.wrap ((↑(nl (val n fun(i:Nat)=>numOf (aB z i))):Int)-1))+(↑(bV (↑(aD (val n fun(i:Nat)=>numOf (aB z i)) (i64.wrap ((↑(nl (val n fun(i:Nat)=>numOf (aB z i))):Int)-1)).toNat):Int).toNat):Int)))])))):=ah
theorem aau {x:Nat} (hx:x<2^32) (K:Nat) (pre:aE):aQ P 184 K [.int .u32 x] pre (aL (.int .i64 (32-bV x:Nat)) []):=by
 refine ck hT (aJ Mc cz) hm agx rfl aX rfl 30 agd (fun _=>?_) K pre
 have h1:bV x<=32:=jZ.2 hx
 simp only[ag.all,az]
 refine⟨aa,cw ?_⟩
 rw[bJ,wrap_i64 aa aa];omega
theorem af3 {n:Nat} {z:Nat->Nat} (hz:∀i,i<n->z i<2^32) (hn:n<2^40) (K:Nat) (pre:aE):aQ P 126 K [.ak 1 n (aB z)] pre (aL (.int .i64 (bV (val n z):Nat)) []):=by
 refine ck hT (aJ Mc iT) hm acd rfl aX rfl 30 ZM (fun _=>?_) K pre
 have hnl:nl (val n z)<=n:=eA.2 (g7 hz)
 simp only[ag.all,az,kY,beq_iff_eq,beq_eq_false_iff_ne,ne_eq]
 generalize val n z=N at*
 refine⟨⟨iE hz,aa⟩,fun h=>cw ?_,fun h=>?_⟩
 ·have:N=0:=by
   rcases Nat.eq_zero_or_pos N with h1|h1
   ·exact h1
   ·have:=iF.2 (show N≠0 by omega);omega
  simp[this,bV]
 ·have h0:N≠0:=iF.1 aa
  have hp:=iF.2 h0
  have e:i64.wrap ((nl N:Int)-1)=((nl N-1:Nat):Int):=by rw[wrap_i64 aa aa];omega
  rw[e,bJ,bJ]
  have hl:=eZ (N:=N) (i:=nl N-1)
  have hb:=KE h0
  have h32:bV (aD N (nl N-1))<=32:=jZ.2 hl
  refine⟨⟨aa,aa⟩,cw ?_⟩
  rw[hb,wrap_i64 (x:=32*((nl N-1:Nat):Int)) aa aa,wrap_i64 aa aa]
  omega
def Jq:Spec:=cu fun l=>match l with
 |[.int .u32 x]=>some (aL (.int .i64 (32-bV x.toNat:Nat)) [0<=x/\x<2^32])
 |_=>none
theorem afg:aY P Jq 184:=by
 refine cW fun K args r hk hs _=>?_
 split at hs
 ·rename_i x
  simp only[ay]at hs
  subst hs
  intro need
  obtain⟨h1,h2⟩:0<=x/\x<2^32:=need
  obtain⟨y,rfl⟩:=Int.eq_ofNat_of_zero_le h1
  exact aau (x:=y) aa K [] trivial
 ·simp at hs
def El (N n:Nat):ep:=aL (.int .i64 (bV N:Nat)) [n<2^40]
theorem MQ:aY P (cu (mZ El)) 126:=
 cW (u9 fun _ _ K hz need=>af3 hz need K [])
end Go.Am.B
