/- bits.Len32, bits.LeadingZeros32, natural.Bits, slices.Clone, slices.Equal. -/
import Derived.Test.YtolopdkjjlfgjaaGreatB4
set_option linter.unusedVariables false
namespace Go.Am.B
open Go Go.Am.N AV Proofs.Tryz IntKind
theorem Xo:br 162 f162:=bu func162
theorem Xp:br 184 f184:=bu func184
theorem ahw:br 126 f126:=bu func126
abbrev mP:ByteArray:=⟨((List.range 256).map fun i=>UInt8.ofNat (bX i)).toArray⟩
def DF:Spec:=cw fun l=>match l with
 |[.int .u32 x]=>some (aM (.int .i64 (bX x.toNat:Nat)) [0<=x/\x<2^32])
 |_=>none
theorem abK {x:Nat}:cB T [] [4,8] 30 f162 (aI f162) ⟨aU 0 [.int .u32 x],[],0⟩=
  some (af.fork (decide ((↑x:Int)>=65536)) (af.aj [(0:Int)<=16] (af.fork (decide ((↑x:Int).fdiv ((2:Int)^min (Int.toNat (16:Int)) u32.bits)>=256)) (af.aj [(0:Int)<=8] (af.aj [(0:Int)<=u8.wrap (((↑x:Int).fdiv ((2:Int)^min (Int.toNat (16:Int)) u32.bits)).fdiv ((2:Int)^min (Int.toNat (8:Int)) u32.bits))/\u8.wrap (((↑x:Int).fdiv ((2:Int)^min (Int.toNat (16:Int)) u32.bits)).fdiv ((2:Int)^min (Int.toNat (8:Int)) u32.bits))<(↑mP.size:Int)] (af.leaf aq.ret [int .i64 (i64.wrap (i64.wrap ((16:Int)+8)+i64.wrap (↑(nK mP (u8.wrap (((↑x:Int).fdiv ((2:Int)^min (Int.toNat (16:Int)) u32.bits)).fdiv ((2:Int)^min (Int.toNat (8:Int)) u32.bits))).toNat):Int)))]))) (af.aj [(0:Int)<=u8.wrap ((↑x:Int).fdiv ((2:Int)^min (Int.toNat (16:Int)) u32.bits))/\u8.wrap ((↑x:Int).fdiv ((2:Int)^min (Int.toNat (16:Int)) u32.bits))<(↑mP.size:Int)] (af.leaf aq.ret [int .i64 (i64.wrap ((16:Int)+i64.wrap (↑(nK mP (u8.wrap ((↑x:Int).fdiv ((2:Int)^min (Int.toNat (16:Int)) u32.bits))).toNat):Int)))])))) (af.fork (decide ((↑x:Int)>=256)) (af.aj [(0:Int)<=8] (af.aj [(0:Int)<=u8.wrap ((↑x:Int).fdiv ((2:Int)^min (Int.toNat (8:Int)) u32.bits))/\u8.wrap ((↑x:Int).fdiv ((2:Int)^min (Int.toNat (8:Int)) u32.bits))<(↑mP.size:Int)] (af.leaf aq.ret [int .i64 (i64.wrap (i64.wrap ((0:Int)+8)+i64.wrap (↑(nK mP (u8.wrap ((↑x:Int).fdiv ((2:Int)^min (Int.toNat (8:Int)) u32.bits))).toNat):Int)))]))) (af.aj [(0:Int)<=u8.wrap (↑x:Int)/\u8.wrap (↑x:Int)<(↑mP.size:Int)] (af.leaf aq.ret [int .i64 (i64.wrap ((0:Int)+i64.wrap (↑(nK mP (u8.wrap (↑x:Int)).toNat):Int)))])))):=ah
theorem Cy {i:Nat} (h:i<256):nK mP i=bX i:=by
 have h8:bX i<=8:=j6.2 aa
 unfold nK
 have:mP.data[i]?=some (UInt8.ofNat (bX i)):=by simp[mP,h]
 rw[this]
 simp only[UInt8.toNat_ofNat']
 omega
theorem acd:mP.size=256:=by
 show(List.map _ (List.range 256)).toArray.size=256
 simp
theorem xb {x:Nat} {s:Int} (hs:0<=s) (h:s<32):(x:Int).fdiv (2^min s.toNat u32.bits)=((x/2^s.toNat:Nat):Int):=by
 have:u32.bits=32:=rfl
 rw[this,Nat.min_eq_left aa,Int.fdiv_eq_ediv_of_nonneg _ (by exact Int.le_of_lt (Int.pow_pos (by decide)))]
 simp
theorem Al {x:Nat} (h:x<256):u8.wrap (x:Int)=x:=by
 simp[IntKind.wrap,IntKind.bits,IntKind.signed];omega
theorem af2 {x:Nat} (hx:x<2^32) (K:Nat) (pre:aE):aS P 162 K [.int .u32 x] pre (aM (.int .i64 (bX x:Nat)) []):=by
 refine cF hT cG hm Xo rfl aZ rfl 30 abK (fun _=>?_) K pre
 have b8:∀i:Nat,i<256->bX i<=8:=fun i h=>j6.2 aa
 rw[xb (by decide) (by decide),xb (by decide) (by decide),xb (by decide) (by decide)]
 simp only[af.all,az,bD,bI,acd,show Int.toNat 16=16 from rfl,show Int.toNat 8=8 from rfl]
 refine⟨fun h1=>⟨aa,fun h2=>⟨aa,?_⟩,fun h2=>?_⟩,fun h1=>⟨fun h2=>⟨aa,?_⟩,fun h2=>?_⟩⟩
 ·have h3:x/2^16/2^8<256:=aa
  have e:bX x=16+(8+bX (x/2^16/2^8)):=by rw[vF (k:=16) aa,vF (x:=x/2^16) (k:=8) aa]
  rw[Al h3]
  refine⟨aa,cq ?_⟩
  rw[bG,Cy h3,e]
  have:=b8 _ h3
  rw[wrap_i64 (x:=((bX (x/2^16/2^8):Nat):Int)) aa aa,wrap_i64 (x:=(16:Int)+8) aa aa,wrap_i64 aa aa]
  omega
 ·have h3:x/2^16<256:=aa
  have e:bX x=16+bX (x/2^16):=by rw[vF (k:=16) aa]
  rw[Al h3]
  refine⟨aa,cq ?_⟩
  rw[bG,Cy h3,e]
  have:=b8 _ h3
  rw[wrap_i64 (x:=((bX (x/2^16):Nat):Int)) aa aa,wrap_i64 aa aa]
  omega
 ·have h3:x/2^8<256:=aa
  have e:bX x=8+bX (x/2^8):=by rw[vF (k:=8) aa]
  rw[Al h3]
  refine⟨aa,cq ?_⟩
  rw[bG,Cy h3,e]
  have:=b8 _ h3
  rw[wrap_i64 (x:=((bX (x/2^8):Nat):Int)) aa aa,wrap_i64 (x:=(0:Int)+8) aa aa,wrap_i64 aa aa]
  omega
 ·have h3:x<256:=aa
  rw[Al h3]
  refine⟨aa,cq ?_⟩
  rw[bG,Cy h3]
  have:=b8 _ h3
  rw[wrap_i64 (x:=((bX x:Nat):Int)) aa aa,wrap_i64 aa aa]
  omega
theorem Li:bf P DF 162:=by
 refine dc fun K args r hk hs _=>?_
 split at hs
 ·rename_i x
  simp only[ay]at hs
  subst hs
  intro need
  obtain⟨h1,h2⟩:0<=x/\x<2^32:=need
  obtain⟨y,rfl⟩:=Int.eq_ofNat_of_zero_le h1
  exact af2 (x:=y) aa K [] trivial
 ·simp at hs
theorem Ta {x:Nat}:cB T [(162,DF)] [] 30 f184 (aI f184) ⟨aU 0 [.int .u32 x],[],0⟩=
  some (af.aj [(0:Int)<=(↑x:Int)/\(↑x:Int)<2^32] (af.leaf aq.ret [int .i64 (i64.wrap ((32:Int)-(↑(bX (↑x:Int).toNat):Int)))])):=ah
theorem We {n:Nat} {z:Nat->Nat}:cB T ((162,DF)::G1) [7] 30 f126 (aI f126) ⟨aU 0 [.ak 1 n (aA z)],[],0⟩=
  some (af.aj [fe n (aA z),n<2^62] (af.fork ((↑(nl (val n fun(i:Nat)=>numOf (aA z i))):Int)==0) (af.leaf aq.ret [int .i64 (0:Int)]) (af.aj [(0:Int)<=i64.wrap ((↑(nl (val n fun(i:Nat)=>numOf (aA z i))):Int)-1)/\(i64.wrap ((↑(nl (val n fun(i:Nat)=>numOf (aA z i))):Int)-1)).toNat<nl (val n fun(i:Nat)=>numOf (aA z i)),(0:Int)<=(↑(aD (val n fun(i:Nat)=>numOf (aA z i)) (i64.wrap ((↑(nl (val n fun(i:Nat)=>numOf (aA z i))):Int)-1)).toNat):Int)/\(↑(aD (val n fun(i:Nat)=>numOf (aA z i)) (i64.wrap ((↑(nl (val n fun(i:Nat)=>numOf (aA z i))):Int)-1)).toNat):Int)<2^32] (af.leaf aq.ret [int .i64 (i64.wrap (i64.wrap ((32:Int)*i64.wrap ((↑(nl (val n fun(i:Nat)=>numOf (aA z i))):Int)-1))+(↑(bX (↑(aD (val n fun(i:Nat)=>numOf (aA z i)) (i64.wrap ((↑(nl (val n fun(i:Nat)=>numOf (aA z i))):Int)-1)).toNat):Int).toNat):Int)))])))):=ah
theorem Vj {x:Nat} (hx:x<2^32) (K:Nat) (pre:aE):aS P 184 K [.int .u32 x] pre (aM (.int .i64 (32-bX x:Nat)) []):=by
 refine cF hT (aL Li cG) hm Xp rfl aZ rfl 30 Ta (fun _=>?_) K pre
 have h1:bX x<=32:=j6.2 hx
 simp only[af.all,az]
 refine⟨aa,cq ?_⟩
 rw[bG,wrap_i64 aa aa];omega
theorem YW {n:Nat} {z:Nat->Nat} (hz:∀i,i<n->z i<2^32) (hn:n<2^40) (K:Nat) (pre:aE):aS P 126 K [.ak 1 n (aA z)] pre (aM (.int .i64 (bX (val n z):Nat)) []):=by
 refine cF hT (aL Li iM) hm ahw rfl aZ rfl 30 We (fun _=>?_) K pre
 have hnl:nl (val n z)<=n:=eo.2 (gV hz)
 simp only[af.all,az,kq,beq_iff_eq,beq_eq_false_iff_ne,ne_eq]
 generalize val n z=N at*
 refine⟨⟨iu hz,aa⟩,fun h=>cq ?_,fun h=>?_⟩
 ·have:N=0:=by
   rcases Nat.eq_zero_or_pos N with h1|h1
   ·exact h1
   ·have:=iB.2 (show N≠0 by omega);omega
  simp[this,bX]
 ·have h0:N≠0:=iB.1 aa
  have hp:=iB.2 h0
  have e:i64.wrap ((nl N:Int)-1)=((nl N-1:Nat):Int):=by rw[wrap_i64 aa aa];omega
  rw[e,bG,bG]
  have hl:=eO (N:=N) (i:=nl N-1)
  have hb:=KS h0
  have h32:bX (aD N (nl N-1))<=32:=j6.2 hl
  refine⟨⟨aa,aa⟩,cq ?_⟩
  rw[hb,wrap_i64 (x:=32*((nl N-1:Nat):Int)) aa aa,wrap_i64 aa aa]
  omega
def Kb:Spec:=cw fun l=>match l with
 |[.int .u32 x]=>some (aM (.int .i64 (32-bX x.toNat:Nat)) [0<=x/\x<2^32])
 |_=>none
theorem adJ:bf P Kb 184:=by
 refine dc fun K args r hk hs _=>?_
 split at hs
 ·rename_i x
  simp only[ay]at hs
  subst hs
  intro need
  obtain⟨h1,h2⟩:0<=x/\x<2^32:=need
  obtain⟨y,rfl⟩:=Int.eq_ofNat_of_zero_le h1
  exact Vj (x:=y) aa K [] trivial
 ·simp at hs
def Pr (N n:Nat):dZ:=aM (.int .i64 (bX N:Nat)) [n<2^40]
theorem abu:bf P (cw (nj Pr)) 126:=
 dc (v7 fun _ _ K hz need=>YW hz need K [])
end Go.Am.B
