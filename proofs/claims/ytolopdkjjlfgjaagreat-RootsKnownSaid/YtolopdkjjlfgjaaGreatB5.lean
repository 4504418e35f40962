/- bits.Len32, bits.LeadingZeros32, natural.Bits, slices.Clone, slices.Equal. -/
import Derived.Test.YtolopdkjjlfgjaaGreatB4
set_option linter.unusedVariables false
namespace Go.Am.B
open Go Go.Am.N AV Proofs.Tryz IntKind
theorem Rm:bC 162 f162:=bD func162
theorem adR:bC 184 f184:=bD func184
theorem V9:bC 126 f126:=bD func126
abbrev nu:ByteArray:=⟨((List.range 256).map fun i=>UInt8.ofNat (bU i)).toArray⟩
def Ew:Spec:=cw fun l=>match l with
 |[.int .u32 x]=>some (aT (.int .i64 (bU x.toNat:Nat)) [0<=x/\x<2^32])
 |_=>none
theorem Uh {x:Nat}:cy T [] [4,8] 30 f162 (aJ f162) ⟨bf 0 [.int .u32 x],[],0⟩=
  some (af.fork (decide ((↑x:Int)>=65536)) (af.aj [(0:Int)<=16] (af.fork (decide ((↑x:Int).fdiv ((2:Int)^min (Int.toNat (16:Int)) u32.bits)>=256)) (af.aj [(0:Int)<=8] (af.aj [(0:Int)<=u8.wrap (((↑x:Int).fdiv ((2:Int)^min (Int.toNat (16:Int)) u32.bits)).fdiv ((2:Int)^min (Int.toNat (8:Int)) u32.bits))/\u8.wrap (((↑x:Int).fdiv ((2:Int)^min (Int.toNat (16:Int)) u32.bits)).fdiv ((2:Int)^min (Int.toNat (8:Int)) u32.bits))<(↑nu.size:Int)] (af.leaf au.ret [int .i64 (i64.wrap (i64.wrap ((16:Int)+8)+i64.wrap (↑(oL nu (u8.wrap (((↑x:Int).fdiv ((2:Int)^min (Int.toNat (16:Int)) u32.bits)).fdiv ((2:Int)^min (Int.toNat (8:Int)) u32.bits))).toNat):Int)))]))) (af.aj [(0:Int)<=u8.wrap ((↑x:Int).fdiv ((2:Int)^min (Int.toNat (16:Int)) u32.bits))/\u8.wrap ((↑x:Int).fdiv ((2:Int)^min (Int.toNat (16:Int)) u32.bits))<(↑nu.size:Int)] (af.leaf au.ret [int .i64 (i64.wrap ((16:Int)+i64.wrap (↑(oL nu (u8.wrap ((↑x:Int).fdiv ((2:Int)^min (Int.toNat (16:Int)) u32.bits))).toNat):Int)))])))) (af.fork (decide ((↑x:Int)>=256)) (af.aj [(0:Int)<=8] (af.aj [(0:Int)<=u8.wrap ((↑x:Int).fdiv ((2:Int)^min (Int.toNat (8:Int)) u32.bits))/\u8.wrap ((↑x:Int).fdiv ((2:Int)^min (Int.toNat (8:Int)) u32.bits))<(↑nu.size:Int)] (af.leaf au.ret [int .i64 (i64.wrap (i64.wrap ((0:Int)+8)+i64.wrap (↑(oL nu (u8.wrap ((↑x:Int).fdiv ((2:Int)^min (Int.toNat (8:Int)) u32.bits))).toNat):Int)))]))) (af.aj [(0:Int)<=u8.wrap (↑x:Int)/\u8.wrap (↑x:Int)<(↑nu.size:Int)] (af.leaf au.ret [int .i64 (i64.wrap ((0:Int)+i64.wrap (↑(oL nu (u8.wrap (↑x:Int)).toNat):Int)))])))):=ah
theorem AJ {i:Nat} (h:i<256):oL nu i=bU i:=by
 have h8:bU i<=8:=lK.2 aa
 unfold oL
 have:nu.data[i]?=some (UInt8.ofNat (bU i)):=by simp[nu,h]
 rw[this]
 simp only[UInt8.toNat_ofNat']
 omega
theorem SA:nu.size=256:=by
 show(List.map _ (List.range 256)).toArray.size=256
 simp
theorem zK {x:Nat} {s:Int} (hs:0<=s) (h:s<32):(x:Int).fdiv (2^min s.toNat u32.bits)=((x/2^s.toNat:Nat):Int):=by
 have:u32.bits=32:=rfl
 rw[this,Nat.min_eq_left aa,Int.fdiv_eq_ediv_of_nonneg _ (by exact Int.le_of_lt (Int.pow_pos (by decide)))]
 simp
theorem Cm {x:Nat} (h:x<256):u8.wrap (x:Int)=x:=by
 simp[IntKind.wrap,IntKind.bits,IntKind.signed];omega
theorem abJ {x:Nat} (hx:x<2^32) (K:Nat) (pre:aG):aY P 162 K [.int .u32 x] pre (aT (.int .i64 (bU x:Nat)) []):=by
 refine cB hT cK hm Rm rfl br rfl 30 Uh (fun _=>?_) K pre
 have b8:∀i:Nat,i<256->bU i<=8:=fun i h=>lK.2 aa
 rw[zK (by decide) (by decide),zK (by decide) (by decide),zK (by decide) (by decide)]
 simp only[af.all,aF,bI,bO,SA,show Int.toNat 16=16 from rfl,show Int.toNat 8=8 from rfl]
 refine⟨fun h1=>⟨aa,fun h2=>⟨aa,?_⟩,fun h2=>?_⟩,fun h1=>⟨fun h2=>⟨aa,?_⟩,fun h2=>?_⟩⟩
 ·have h3:x/2^16/2^8<256:=aa
  have e:bU x=16+(8+bU (x/2^16/2^8)):=by rw[uC (k:=16) aa,uC (x:=x/2^16) (k:=8) aa]
  rw[Cm h3]
  refine⟨aa,cu ?_⟩
  rw[bJ,AJ h3,e]
  have:=b8 _ h3
  rw[wrap_i64 (x:=((bU (x/2^16/2^8):Nat):Int)) aa aa,wrap_i64 (x:=(16:Int)+8) aa aa,wrap_i64 aa aa]
  omega
 ·have h3:x/2^16<256:=aa
  have e:bU x=16+bU (x/2^16):=by rw[uC (k:=16) aa]
  rw[Cm h3]
  refine⟨aa,cu ?_⟩
  rw[bJ,AJ h3,e]
  have:=b8 _ h3
  rw[wrap_i64 (x:=((bU (x/2^16):Nat):Int)) aa aa,wrap_i64 aa aa]
  omega
 ·have h3:x/2^8<256:=aa
  have e:bU x=8+bU (x/2^8):=by rw[uC (k:=8) aa]
  rw[Cm h3]
  refine⟨aa,cu ?_⟩
  rw[bJ,AJ h3,e]
  have:=b8 _ h3
  rw[wrap_i64 (x:=((bU (x/2^8):Nat):Int)) aa aa,wrap_i64 (x:=(0:Int)+8) aa aa,wrap_i64 aa aa]
  omega
 ·have h3:x<256:=aa
  rw[Cm h3]
  refine⟨aa,cu ?_⟩
  rw[bJ,AJ h3]
  have:=b8 _ h3
  rw[wrap_i64 (x:=((bU x:Nat):Int)) aa aa,wrap_i64 aa aa]
  omega
theorem HE:bF P Ew 162:=by
 refine cY fun K args r hk hs _=>?_
 split at hs
 ·rename_i x
  simp only[aB]at hs
  subst hs
  intro need
  obtain⟨h1,h2⟩:0<=x/\x<2^32:=need
  obtain⟨y,rfl⟩:=Int.eq_ofNat_of_zero_le h1
  exact abJ (x:=y) aa K [] trivial
 ·simp at hs
theorem ad4 {x:Nat}:cy T [(162,Ew)] [] 30 f184 (aJ f184) ⟨bf 0 [.int .u32 x],[],0⟩=
  some (af.aj [(0:Int)<=(↑x:Int)/\(↑x:Int)<2^32] (af.leaf au.ret [int .i64 (i64.wrap ((32:Int)-(↑(bU (↑x:Int).toNat):Int)))])):=ah
theorem QJ {n:Nat} {z:Nat->Nat}:cy T ((162,Ew)::G1) [7] 30 f126 (aJ f126) ⟨bf 0 [.az 1 n (aD z)],[],0⟩=
  some (af.aj [fu n (aD z),n<2^62] (af.fork ((↑(nl (val n fun(i:Nat)=>numOf (aD z i))):Int)==0) (af.leaf au.ret [int .i64 (0:Int)]) (af.aj [(0:Int)<=i64.wrap ((↑(nl (val n fun(i:Nat)=>numOf (aD z i))):Int)-1)/\(i64.wrap ((↑(nl (val n fun(i:Nat)=>numOf (aD z i))):Int)-1)).toNat<nl (val n fun(i:Nat)=>numOf (aD z i)),(0:Int)<=(↑(aE (val n fun(i:Nat)=>numOf (aD z i)) (i64.wrap ((↑(nl (val n fun(i:Nat)=>numOf (aD z i))):Int)-1)).toNat):Int)/\(↑(aE (val n fun(i:Nat)=>numOf (aD z i)) (i64.wrap ((↑(nl (val n fun(i:Nat)=>numOf (aD z i))):Int)-1)).toNat):Int)<2^32] (af.leaf au.ret [int .i64 (i64.wrap (i64.wrap ((32:Int)*i64.wrap ((↑(nl (val n fun(i:Nat)=>numOf (aD z i))):Int)-1))+(↑(bU (↑(aE (val n fun(i:Nat)=>numOf (aD z i)) (i64.wrap ((↑(nl (val n fun(i:Nat)=>numOf (aD z i))):Int)-1)).toNat):Int).toNat):Int)))])))):=ah
theorem Xa {x:Nat} (hx:x<2^32) (K:Nat) (pre:aG):aY P 184 K [.int .u32 x] pre (aT (.int .i64 (32-bU x:Nat)) []):=by
 refine cB hT (aM HE cK) hm adR rfl br rfl 30 ad4 (fun _=>?_) K pre
 have h1:bU x<=32:=lK.2 hx
 simp only[af.all,aF]
 refine⟨aa,cu ?_⟩
 rw[bJ,wrap_i64 aa aa];omega
theorem ade {n:Nat} {z:Nat->Nat} (hz:∀i,i<n->z i<2^32) (hn:n<2^40) (K:Nat) (pre:aG):aY P 126 K [.az 1 n (aD z)] pre (aT (.int .i64 (bU (val n z):Nat)) []):=by
 refine cB hT (aM HE iY) hm V9 rfl br rfl 30 QJ (fun _=>?_) K pre
 have hnl:nl (val n z)<=n:=eo.2 (ia hz)
 simp only[af.all,aF,kX,beq_iff_eq,beq_eq_false_iff_ne,ne_eq]
 generalize val n z=N at*
 refine⟨⟨iJ hz,aa⟩,fun h=>cu ?_,fun h=>?_⟩
 ·have:N=0:=by
   rcases Nat.eq_zero_or_pos N with h1|h1
   ·exact h1
   ·have:=iO.2 (show N≠0 by omega);omega
  simp[this,bU]
 ·have h0:N≠0:=iO.1 aa
  have hp:=iO.2 h0
  have e:i64.wrap ((nl N:Int)-1)=((nl N-1:Nat):Int):=by rw[wrap_i64 aa aa];omega
  rw[e,bJ,bJ]
  have hl:=eP (N:=N) (i:=nl N-1)
  have hb:=M4 h0
  have h32:bU (aE N (nl N-1))<=32:=lK.2 hl
  refine⟨⟨aa,aa⟩,cu ?_⟩
  rw[hb,wrap_i64 (x:=32*((nl N-1:Nat):Int)) aa aa,wrap_i64 aa aa]
  omega
def JM:Spec:=cw fun l=>match l with
 |[.int .u32 x]=>some (aT (.int .i64 (32-bU x.toNat:Nat)) [0<=x/\x<2^32])
 |_=>none
theorem Qz:bF P JM 184:=by
 refine cY fun K args r hk hs _=>?_
 split at hs
 ·rename_i x
  simp only[aB]at hs
  subst hs
  intro need
  obtain⟨h1,h2⟩:0<=x/\x<2^32:=need
  obtain⟨y,rfl⟩:=Int.eq_ofNat_of_zero_le h1
  exact Xa (x:=y) aa K [] trivial
 ·simp at hs
def El (N n:Nat):en:=aT (.int .i64 (bU N:Nat)) [n<2^40]
theorem MN:bF P (cw (mW El)) 126:=
 cY (uE fun _ _ K hz need=>ade hz need K [])
end Go.Am.B
