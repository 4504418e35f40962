/- bits.Len32, bits.LeadingZeros32, natural.Bits, slices.Clone, slices.Equal. -/
import Derived.Test.YtnniljlepppdpaaGreatB4
set_option linter.unusedVariables false
namespace Go.Am.B
open Go Go.Am.N AV
theorem aex:aT P xN EG (ay EG):=aU Proofs.Tryz.func254 ag ag ag
theorem abX:aT P CB Ec (ay Ec):=aU Proofs.Tryz.func288 ag ag ag
theorem Wz:aT P zm FI (ay FI):=aU Proofs.Tryz.func195 ag ag ag
abbrev l8:ByteArray:=⟨((List.range 256).map fun i=>UInt8.ofNat (bQ i)).toArray⟩
def LA:Spec:=bY fun l=>match l with
 |[.int .u32 x]=>some (aJ (.int .i64 (bQ x.toNat:Nat)) [0<=x/\x<2^32])
 |_=>none
theorem Xr {x:Nat}:bU T [] [4,8] 30 EG (ay EG) ⟨aP 0 [.int .u32 x],[],0⟩=
  some (ah.fork (decide ((↑x:Int)>=65536)) (ah.aj [(0:Int)<=16] (ah.fork (decide ((↑x:Int).fdiv ((2:Int)^min (Int.toNat (16:Int)) IntKind.u32.bits)>=256)) (ah.aj [(0:Int)<=8] (ah.aj [(0:Int)<=IntKind.u8.wrap (((↑x:Int).fdiv ((2:Int)^min (Int.toNat (16:Int)) IntKind.u32.bits)).fdiv ((2:Int)^min (Int.toNat (8:Int)) IntKind.u32.bits))/\IntKind.u8.wrap (((↑x:Int).fdiv ((2:Int)^min (Int.toNat (16:Int)) IntKind.u32.bits)).fdiv ((2:Int)^min (Int.toNat (8:Int)) IntKind.u32.bits))<(↑l8.size:Int)] (ah.leaf ax.ret [int .i64 (IntKind.i64.wrap (IntKind.i64.wrap ((16:Int)+8)+IntKind.i64.wrap (↑(ot l8 (IntKind.u8.wrap (((↑x:Int).fdiv ((2:Int)^min (Int.toNat (16:Int)) IntKind.u32.bits)).fdiv ((2:Int)^min (Int.toNat (8:Int)) IntKind.u32.bits))).toNat):Int)))]))) (ah.aj [(0:Int)<=IntKind.u8.wrap ((↑x:Int).fdiv ((2:Int)^min (Int.toNat (16:Int)) IntKind.u32.bits))/\IntKind.u8.wrap ((↑x:Int).fdiv ((2:Int)^min (Int.toNat (16:Int)) IntKind.u32.bits))<(↑l8.size:Int)] (ah.leaf ax.ret [int .i64 (IntKind.i64.wrap ((16:Int)+IntKind.i64.wrap (↑(ot l8 (IntKind.u8.wrap ((↑x:Int).fdiv ((2:Int)^min (Int.toNat (16:Int)) IntKind.u32.bits))).toNat):Int)))])))) (ah.fork (decide ((↑x:Int)>=256)) (ah.aj [(0:Int)<=8] (ah.aj [(0:Int)<=IntKind.u8.wrap ((↑x:Int).fdiv ((2:Int)^min (Int.toNat (8:Int)) IntKind.u32.bits))/\IntKind.u8.wrap ((↑x:Int).fdiv ((2:Int)^min (Int.toNat (8:Int)) IntKind.u32.bits))<(↑l8.size:Int)] (ah.leaf ax.ret [int .i64 (IntKind.i64.wrap (IntKind.i64.wrap ((0:Int)+8)+IntKind.i64.wrap (↑(ot l8 (IntKind.u8.wrap ((↑x:Int).fdiv ((2:Int)^min (Int.toNat (8:Int)) IntKind.u32.bits))).toNat):Int)))]))) (ah.aj [(0:Int)<=IntKind.u8.wrap (↑x:Int)/\IntKind.u8.wrap (↑x:Int)<(↑l8.size:Int)] (ah.leaf ax.ret [int .i64 (IntKind.i64.wrap ((0:Int)+IntKind.i64.wrap (↑(ot l8 (IntKind.u8.wrap (↑x:Int)).toNat):Int)))])))):=ag
theorem D6 {i:Nat} (h:i<256):ot l8 i=bQ i:=by
 have h8:bQ i<=8:=jg.2 aa
 unfold ot
 have:l8.data[i]?=some (UInt8.ofNat (bQ i)):=by simp[l8,h]
 rw[this]
 simp only[UInt8.toNat_ofNat']
 omega
theorem amA:l8.size=256:=by
 show(List.map _ (List.range 256)).toArray.size=256
 simp
theorem AG {x:Nat} {s:Int} (hs:0<=s) (h:s<32):(x:Int).fdiv (2^min s.toNat IntKind.u32.bits)=((x/2^s.toNat:Nat):Int):=by
 have:IntKind.u32.bits=32:=rfl
 rw[this,Nat.min_eq_left aa,Int.fdiv_eq_ediv_of_nonneg _ (by exact Int.le_of_lt (Int.pow_pos (by decide)))]
 simp
theorem Er {x:Nat} (h:x<256):IntKind.u8.wrap (x:Int)=x:=by
 simp[IntKind.wrap,IntKind.bits,IntKind.signed];omega
theorem Zi {x:Nat} (hx:x<2^32) (K:Nat) (pre:aE):aQ P xN K [.int .u32 x] pre (aJ (.int .i64 (bQ x:Nat)) []):=by
 refine bZ hT bz hm aex rfl aX rfl 30 Xr (fun _=>?_) K pre
 have b8:∀i:Nat,i<256->bQ i<=8:=fun i h=>jg.2 aa
 rw[AG (by decide) (by decide),AG (by decide) (by decide),AG (by decide) (by decide)]
 simp only[ah.all,aA,bq,bw,amA,show Int.toNat 16=16 from rfl,show Int.toNat 8=8 from rfl]
 refine⟨fun h1=>⟨aa,fun h2=>⟨aa,?_⟩,fun h2=>?_⟩,fun h1=>⟨fun h2=>⟨aa,?_⟩,fun h2=>?_⟩⟩
 ·have h3:x/2^16/2^8<256:=aa
  have e:bQ x=16+(8+bQ (x/2^16/2^8)):=by rw[v5 (k:=16) aa,v5 (x:=x/2^16) (k:=8) aa]
  rw[Er h3]
  refine⟨aa,bK ?_⟩
  rw[bn,D6 h3,e]
  have:=b8 _ h3
  rw[wrap_i64 (x:=((bQ (x/2^16/2^8):Nat):Int)) aa aa,wrap_i64 (x:=(16:Int)+8) aa aa,wrap_i64 aa aa]
  omega
 ·have h3:x/2^16<256:=aa
  have e:bQ x=16+bQ (x/2^16):=by rw[v5 (k:=16) aa]
  rw[Er h3]
  refine⟨aa,bK ?_⟩
  rw[bn,D6 h3,e]
  have:=b8 _ h3
  rw[wrap_i64 (x:=((bQ (x/2^16):Nat):Int)) aa aa,wrap_i64 aa aa]
  omega
 ·have h3:x/2^8<256:=aa
  have e:bQ x=8+bQ (x/2^8):=by rw[v5 (k:=8) aa]
  rw[Er h3]
  refine⟨aa,bK ?_⟩
  rw[bn,D6 h3,e]
  have:=b8 _ h3
  rw[wrap_i64 (x:=((bQ (x/2^8):Nat):Int)) aa aa,wrap_i64 (x:=(0:Int)+8) aa aa,wrap_i64 aa aa]
  omega
 ·have h3:x<256:=aa
  rw[Er h3]
  refine⟨aa,bK ?_⟩
  rw[bn,D6 h3]
  have:=b8 _ h3
  rw[wrap_i64 (x:=((bQ x:Nat):Int)) aa aa,wrap_i64 aa aa]
  omega
theorem TH:aW P LA xN:=by
 refine cJ fun K args r hk hs _=>?_
 split at hs
 ·rename_i x
  simp only[az]at hs
  subst hs
  intro need
  obtain⟨h1,h2⟩:0<=x/\x<2^32:=need
  obtain⟨y,rfl⟩:=Int.eq_ofNat_of_zero_le h1
  exact Zi (x:=y) aa K [] trivial
 ·simp at hs
theorem aoY {x:Nat}:bU T [(xN,LA)] [] 30 Ec (ay Ec) ⟨aP 0 [.int .u32 x],[],0⟩=
  some (ah.aj [(0:Int)<=(↑x:Int)/\(↑x:Int)<2^32] (ah.leaf ax.ret [int .i64 (IntKind.i64.wrap ((32:Int)-(↑(bQ (↑x:Int).toNat):Int)))])):=ag
theorem ahd {n:Nat} {z:Nat->Nat}:bU T ((xN,LA)::G1) [7] 30 FI (ay FI) ⟨aP 0 [.aq 1 n (aD z)],[],0⟩=
  some (ah.aj [ek n (aD z),n<2^62] (ah.fork ((↑(nl (val n fun(i:Nat)=>numOf (aD z i))):Int)==0) (ah.leaf ax.ret [int .i64 (0:Int)]) (ah.aj [(0:Int)<=IntKind.i64.wrap ((↑(nl (val n fun(i:Nat)=>numOf (aD z i))):Int)-1)/\(IntKind.i64.wrap ((↑(nl (val n fun(i:Nat)=>numOf (aD z i))):Int)-1)).toNat<nl (val n fun(i:Nat)=>numOf (aD z i)),(0:Int)<=(↑(aF (val n fun(i:Nat)=>numOf (aD z i)) (IntKind.i64.wrap ((↑(nl (val n fun(i:Nat)=>numOf (aD z i))):Int)-1)).toNat):Int)/\(↑(aF (val n fun(i:Nat)=>numOf (aD z i)) (IntKind.i64.wrap ((↑(nl (val n fun(i:Nat)=>numOf (aD z i))):Int)-1)).toNat):Int)<2^32] (ah.leaf ax.ret [int .i64 (IntKind.i64.wrap (IntKind.i64.wrap ((32:Int)*IntKind.i64.wrap ((↑(nl (val n fun(i:Nat)=>numOf (aD z i))):Int)-1))+(↑(bQ (↑(aF (val n fun(i:Nat)=>numOf (aD z i)) (IntKind.i64.wrap ((↑(nl (val n fun(i:Nat)=>numOf (aD z i))):Int)-1)).toNat):Int).toNat):Int)))])))):=ag
theorem anR {x:Nat} (hx:x<2^32) (K:Nat) (pre:aE):aQ P CB K [.int .u32 x] pre (aJ (.int .i64 (32-bQ x:Nat)) []):=by
 refine bZ hT (aI TH bz) hm abX rfl aX rfl 30 aoY (fun _=>?_) K pre
 have h1:bQ x<=32:=jg.2 hx
 simp only[ah.all,aA]
 refine⟨aa,bK ?_⟩
 rw[bn,wrap_i64 aa aa];omega
theorem aaS {n:Nat} {z:Nat->Nat} (hz:∀i,i<n->z i<2^32) (hn:n<2^40) (K:Nat) (pre:aE):aQ P zm K [.aq 1 n (aD z)] pre (aJ (.int .i64 (bQ (val n z):Nat)) []):=by
 refine bZ hT (aI TH gR) hm Wz rfl aX rfl 30 ahd (fun _=>?_) K pre
 have hnl:nl (val n z)<=n:=dF.2 (gp hz)
 simp only[ah.all,aA,kg,beq_iff_eq,beq_eq_false_iff_ne,ne_eq]
 generalize val n z=N at*
 refine⟨⟨gF hz,aa⟩,fun h=>bK ?_,fun h=>?_⟩
 ·have:N=0:=by
   rcases Nat.eq_zero_or_pos N with h1|h1
   ·exact h1
   ·have:=gJ.2 (show N≠0 by omega);omega
  simp[this,bQ]
 ·have h0:N≠0:=gJ.1 aa
  have hp:=gJ.2 h0
  have e:IntKind.i64.wrap ((nl N:Int)-1)=((nl N-1:Nat):Int):=by rw[wrap_i64 aa aa];omega
  rw[e,bn,bn]
  have hl:=dL (N:=N) (i:=nl N-1)
  have hb:=UM h0
  have h32:bQ (aF N (nl N-1))<=32:=jg.2 hl
  refine⟨⟨aa,aa⟩,bK ?_⟩
  rw[hb,wrap_i64 (x:=32*((nl N-1:Nat):Int)) aa aa,wrap_i64 aa aa]
  omega
def Ru:Spec:=bY fun l=>match l with
 |[.int .u32 x]=>some (aJ (.int .i64 (32-bQ x.toNat:Nat)) [0<=x/\x<2^32])
 |_=>none
theorem aem:aW P Ru CB:=by
 refine cJ fun K args r hk hs _=>?_
 split at hs
 ·rename_i x
  simp only[az]at hs
  subst hs
  intro need
  obtain⟨h1,h2⟩:0<=x/\x<2^32:=need
  obtain⟨y,rfl⟩:=Int.eq_ofNat_of_zero_le h1
  exact anR (x:=y) aa K [] trivial
 ·simp at hs
def Lb (N n:Nat):dz:=aJ (.int .i64 (bQ N:Nat)) [n<2^40]
theorem Up:aW P (bY (mQ Lb)) zm:=
 cJ (uL fun _ _ K hz need=>aaS hz need K [])
end Go.Am.B
