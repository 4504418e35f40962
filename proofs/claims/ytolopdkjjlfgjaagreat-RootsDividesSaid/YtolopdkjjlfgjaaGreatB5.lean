/- bits.Len32, bits.LeadingZeros32, natural.Bits, slices.Clone, slices.Equal. -/
import Derived.Test.YtolopdkjjlfgjaaGreatB4
set_option linter.unusedVariables false
namespace Go.Am.B
open Go Go.Am.N AV Proofs.Tryz IntKind
theorem Nn:aX 162 f162:=aZ func162
theorem X2:aX 184 f184:=aZ func184
theorem V5:aX 126 f126:=aZ func126
abbrev kJ:ByteArray:=⟨((List.range 256).map fun i=>UInt8.ofNat (bK i)).toArray⟩
def Bo:Spec:=bU fun l=>match l with
 |[.int .u32 x]=>some (aK (.int .i64 (bK x.toNat:Nat)) [0<=x/\x<2^32])
 |_=>none
theorem OD {x:Nat}:bR T [] [4,8] 30 f162 (aH f162) ⟨aT 0 [.int .u32 x],[],0⟩=
  some (af.fork (decide ((↑x:Int)>=65536)) (af.aj [(0:Int)<=16] (af.fork (decide ((↑x:Int).fdiv ((2:Int)^min (Int.toNat (16:Int)) u32.bits)>=256)) (af.aj [(0:Int)<=8] (af.aj [(0:Int)<=u8.wrap (((↑x:Int).fdiv ((2:Int)^min (Int.toNat (16:Int)) u32.bits)).fdiv ((2:Int)^min (Int.toNat (8:Int)) u32.bits))/\u8.wrap (((↑x:Int).fdiv ((2:Int)^min (Int.toNat (16:Int)) u32.bits)).fdiv ((2:Int)^min (Int.toNat (8:Int)) u32.bits))<(↑kJ.size:Int)] (af.leaf aq.ret [int .i64 (i64.wrap (i64.wrap ((16:Int)+8)+i64.wrap (↑(mH kJ (u8.wrap (((↑x:Int).fdiv ((2:Int)^min (Int.toNat (16:Int)) u32.bits)).fdiv ((2:Int)^min (Int.toNat (8:Int)) u32.bits))).toNat):Int)))]))) (af.aj [(0:Int)<=u8.wrap ((↑x:Int).fdiv ((2:Int)^min (Int.toNat (16:Int)) u32.bits))/\u8.wrap ((↑x:Int).fdiv ((2:Int)^min (Int.toNat (16:Int)) u32.bits))<(↑kJ.size:Int)] (af.leaf aq.ret [int .i64 (i64.wrap ((16:Int)+i64.wrap (↑(mH kJ (u8.wrap ((↑x:Int).fdiv ((2:Int)^min (Int.toNat (16:Int)) u32.bits))).toNat):Int)))])))) (af.fork (decide ((↑x:Int)>=256)) (af.aj [(0:Int)<=8] (af.aj [(0:Int)<=u8.wrap ((↑x:Int).fdiv ((2:Int)^min (Int.toNat (8:Int)) u32.bits))/\u8.wrap ((↑x:Int).fdiv ((2:Int)^min (Int.toNat (8:Int)) u32.bits))<(↑kJ.size:Int)] (af.leaf aq.ret [int .i64 (i64.wrap (i64.wrap ((0:Int)+8)+i64.wrap (↑(mH kJ (u8.wrap ((↑x:Int).fdiv ((2:Int)^min (Int.toNat (8:Int)) u32.bits))).toNat):Int)))]))) (af.aj [(0:Int)<=u8.wrap (↑x:Int)/\u8.wrap (↑x:Int)<(↑kJ.size:Int)] (af.leaf aq.ret [int .i64 (i64.wrap ((0:Int)+i64.wrap (↑(mH kJ (u8.wrap (↑x:Int)).toNat):Int)))])))):=ah
theorem yX {i:Nat} (h:i<256):mH kJ i=bK i:=by
 have h8:bK i<=8:=ji.2 aa
 unfold mH
 have:kJ.data[i]?=some (UInt8.ofNat (bK i)):=by simp[kJ,h]
 rw[this]
 simp only[UInt8.toNat_ofNat']
 omega
theorem acN:kJ.size=256:=by
 show(List.map _ (List.range 256)).toArray.size=256
 simp
theorem wh {x:Nat} {s:Int} (hs:0<=s) (h:s<32):(x:Int).fdiv (2^min s.toNat u32.bits)=((x/2^s.toNat:Nat):Int):=by
 have:u32.bits=32:=rfl
 rw[this,Nat.min_eq_left aa,Int.fdiv_eq_ediv_of_nonneg _ (by exact Int.le_of_lt (Int.pow_pos (by decide)))]
 simp
theorem AR {x:Nat} (h:x<256):u8.wrap (x:Int)=x:=by
 simp[IntKind.wrap,IntKind.bits,IntKind.signed];omega
theorem Ot {x:Nat} (hx:x<2^32) (K:Nat) (pre:aE):aP P 162 K [.int .u32 x] pre (aK (.int .i64 (bK x:Nat)) []):=by
 refine bZ hT b9 hm Nn rfl aW rfl 30 OD (fun _=>?_) K pre
 have b8:∀i:Nat,i<256->bK i<=8:=fun i h=>ji.2 aa
 rw[wh (by decide) (by decide),wh (by decide) (by decide),wh (by decide) (by decide)]
 simp only[af.all,aA,bw,bB,acN,show Int.toNat 16=16 from rfl,show Int.toNat 8=8 from rfl]
 refine⟨fun h1=>⟨aa,fun h2=>⟨aa,?_⟩,fun h2=>?_⟩,fun h1=>⟨fun h2=>⟨aa,?_⟩,fun h2=>?_⟩⟩
 ·have h3:x/2^16/2^8<256:=aa
  have e:bK x=16+(8+bK (x/2^16/2^8)):=by rw[rM (k:=16) aa,rM (x:=x/2^16) (k:=8) aa]
  rw[AR h3]
  refine⟨aa,bN ?_⟩
  rw[bu,yX h3,e]
  have:=b8 _ h3
  rw[wrap_i64 (x:=((bK (x/2^16/2^8):Nat):Int)) aa aa,wrap_i64 (x:=(16:Int)+8) aa aa,wrap_i64 aa aa]
  omega
 ·have h3:x/2^16<256:=aa
  have e:bK x=16+bK (x/2^16):=by rw[rM (k:=16) aa]
  rw[AR h3]
  refine⟨aa,bN ?_⟩
  rw[bu,yX h3,e]
  have:=b8 _ h3
  rw[wrap_i64 (x:=((bK (x/2^16):Nat):Int)) aa aa,wrap_i64 aa aa]
  omega
 ·have h3:x/2^8<256:=aa
  have e:bK x=8+bK (x/2^8):=by rw[rM (k:=8) aa]
  rw[AR h3]
  refine⟨aa,bN ?_⟩
  rw[bu,yX h3,e]
  have:=b8 _ h3
  rw[wrap_i64 (x:=((bK (x/2^8):Nat):Int)) aa aa,wrap_i64 (x:=(0:Int)+8) aa aa,wrap_i64 aa aa]
  omega
 ·have h3:x<256:=aa
  rw[AR h3]
  refine⟨aa,bN ?_⟩
  rw[bu,yX h3]
  have:=b8 _ h3
  rw[wrap_i64 (x:=((bK x:Nat):Int)) aa aa,wrap_i64 aa aa]
  omega
theorem IM:bf P Bo 162:=by
 refine cJ fun K args r hk hs _=>?_
 split at hs
 ·rename_i x
  simp only[ay]at hs
  subst hs
  intro need
  obtain⟨h1,h2⟩:0<=x/\x<2^32:=need
  obtain⟨y,rfl⟩:=Int.eq_ofNat_of_zero_le h1
  exact Ot (x:=y) aa K [] trivial
 ·simp at hs
theorem To {x:Nat}:bR T [(162,Bo)] [] 30 f184 (aH f184) ⟨aT 0 [.int .u32 x],[],0⟩=
  some (af.aj [(0:Int)<=(↑x:Int)/\(↑x:Int)<2^32] (af.leaf aq.ret [int .i64 (i64.wrap ((32:Int)-(↑(bK (↑x:Int).toNat):Int)))])):=ah
theorem ZV {n:Nat} {z:Nat->Nat}:bR T ((162,Bo)::G1) [7] 30 f126 (aH f126) ⟨aT 0 [.ak 1 n (aB z)],[],0⟩=
  some (af.aj [ej n (aB z),n<2^62] (af.fork ((↑(nl (val n fun(i:Nat)=>numOf (aB z i))):Int)==0) (af.leaf aq.ret [int .i64 (0:Int)]) (af.aj [(0:Int)<=i64.wrap ((↑(nl (val n fun(i:Nat)=>numOf (aB z i))):Int)-1)/\(i64.wrap ((↑(nl (val n fun(i:Nat)=>numOf (aB z i))):Int)-1)).toNat<nl (val n fun(i:Nat)=>numOf (aB z i)),(0:Int)<=(↑(aD (val n fun(i:Nat)=>numOf (aB z i)) (i64.wrap ((↑(nl (val n fun(i:Nat)=>numOf (aB z i))):Int)-1)).toNat):Int)/\(↑(aD (val n fun(i:Nat)=>numOf (aB z i)) (i64.wrap ((↑(nl (val n fun(i:Nat)=>numOf (aB z i))):Int)-1)).toNat):Int)<2^32] (af.leaf aq.ret [int .i64 (i64.wrap (i64.wrap ((32:Int)*i64.wrap ((↑(nl (val n fun(i:Nat)=>numOf (aB z i))):Int)-1))+(↑(bK (↑(aD (val n fun(i:Nat)=>numOf (aB z i)) (i64.wrap ((↑(nl (val n fun(i:Nat)=>numOf (aB z i))):Int)-1)).toNat):Int).toNat):Int)))])))):=ah
theorem Na {x:Nat} (hx:x<2^32) (K:Nat) (pre:aE):aP P 184 K [.int .u32 x] pre (aK (.int .i64 (32-bK x:Nat)) []):=by
 refine bZ hT (aL IM b9) hm X2 rfl aW rfl 30 To (fun _=>?_) K pre
 have h1:bK x<=32:=ji.2 hx
 simp only[af.all,aA]
 refine⟨aa,bN ?_⟩
 rw[bu,wrap_i64 aa aa];omega
theorem On {n:Nat} {z:Nat->Nat} (hz:∀i,i<n->z i<2^32) (hn:n<2^40) (K:Nat) (pre:aE):aP P 126 K [.ak 1 n (aB z)] pre (aK (.int .i64 (bK (val n z):Nat)) []):=by
 refine bZ hT (aL IM gL) hm V5 rfl aW rfl 30 ZV (fun _=>?_) K pre
 have hnl:nl (val n z)<=n:=dJ.2 (fV hz)
 simp only[af.all,aA,jz,beq_iff_eq,beq_eq_false_iff_ne,ne_eq]
 generalize val n z=N at*
 refine⟨⟨gy hz,aa⟩,fun h=>bN ?_,fun h=>?_⟩
 ·have:N=0:=by
   rcases Nat.eq_zero_or_pos N with h1|h1
   ·exact h1
   ·have:=gC.2 (show N≠0 by omega);omega
  simp[this,bK]
 ·have h0:N≠0:=gC.1 aa
  have hp:=gC.2 h0
  have e:i64.wrap ((nl N:Int)-1)=((nl N-1:Nat):Int):=by rw[wrap_i64 aa aa];omega
  rw[e,bu,bu]
  have hl:=dQ (N:=N) (i:=nl N-1)
  have hb:=L5 h0
  have h32:bK (aD N (nl N-1))<=32:=ji.2 hl
  refine⟨⟨aa,aa⟩,bN ?_⟩
  rw[hb,wrap_i64 (x:=32*((nl N-1:Nat):Int)) aa aa,wrap_i64 aa aa]
  omega
def Gp:Spec:=bU fun l=>match l with
 |[.int .u32 x]=>some (aK (.int .i64 (32-bK x.toNat:Nat)) [0<=x/\x<2^32])
 |_=>none
theorem Xr:bf P Gp 184:=by
 refine cJ fun K args r hk hs _=>?_
 split at hs
 ·rename_i x
  simp only[ay]at hs
  subst hs
  intro need
  obtain⟨h1,h2⟩:0<=x/\x<2^32:=need
  obtain⟨y,rfl⟩:=Int.eq_ofNat_of_zero_le h1
  exact Na (x:=y) aa K [] trivial
 ·simp at hs
def Jf (N n:Nat):dD:=aK (.int .i64 (bK N:Nat)) [n<2^40]
theorem P1:bf P (bU (lN Jf)) 126:=
 cJ (sr fun _ _ K hz need=>On hz need K [])
end Go.Am.B
