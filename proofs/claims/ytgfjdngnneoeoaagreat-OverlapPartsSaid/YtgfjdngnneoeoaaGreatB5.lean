/- bits.Len32, bits.LeadingZeros32, natural.Bits, slices.Clone, slices.Equal. -/
import Derived.Test.YtgfjdngnneoeoaaGreatB4
set_option linter.unusedVariables false
namespace Go.Am.B
open Go Go.Am.N AV Proofs.Tryz IntKind
theorem af1:aX 170 f170:=aM func170
theorem agm:aX 173 f173:=aM func173
theorem UY:aX 130 f130:=aM func130
abbrev lU:ByteArray:=⟨((List.range 256).map fun i=>UInt8.ofNat (bN i)).toArray⟩
def A0:Spec:=bX fun l=>match l with
 |[.int .u32 x]=>some (aH (.int .i64 (bN x.toNat:Nat)) [0<=x/\x<2^32])
 |_=>none
theorem Zb {x:Nat}:bF T [] [4,8] 30 f170 (aF f170) ⟨aS 0 [.int .u32 x],[],0⟩=
  some (ag.fork (decide ((↑x:Int)>=65536)) (ag.aj [(0:Int)<=16] (ag.fork (decide ((↑x:Int).fdiv ((2:Int)^min (Int.toNat (16:Int)) u32.bits)>=256)) (ag.aj [(0:Int)<=8] (ag.aj [(0:Int)<=u8.wrap (((↑x:Int).fdiv ((2:Int)^min (Int.toNat (16:Int)) u32.bits)).fdiv ((2:Int)^min (Int.toNat (8:Int)) u32.bits))/\u8.wrap (((↑x:Int).fdiv ((2:Int)^min (Int.toNat (16:Int)) u32.bits)).fdiv ((2:Int)^min (Int.toNat (8:Int)) u32.bits))<(↑lU.size:Int)] (ag.leaf aq.ret [int .i64 (i64.wrap (i64.wrap ((16:Int)+8)+i64.wrap (↑(m9 lU (u8.wrap (((↑x:Int).fdiv ((2:Int)^min (Int.toNat (16:Int)) u32.bits)).fdiv ((2:Int)^min (Int.toNat (8:Int)) u32.bits))).toNat):Int)))]))) (ag.aj [(0:Int)<=u8.wrap ((↑x:Int).fdiv ((2:Int)^min (Int.toNat (16:Int)) u32.bits))/\u8.wrap ((↑x:Int).fdiv ((2:Int)^min (Int.toNat (16:Int)) u32.bits))<(↑lU.size:Int)] (ag.leaf aq.ret [int .i64 (i64.wrap ((16:Int)+i64.wrap (↑(m9 lU (u8.wrap ((↑x:Int).fdiv ((2:Int)^min (Int.toNat (16:Int)) u32.bits))).toNat):Int)))])))) (ag.fork (decide ((↑x:Int)>=256)) (ag.aj [(0:Int)<=8] (ag.aj [(0:Int)<=u8.wrap ((↑x:Int).fdiv ((2:Int)^min (Int.toNat (8:Int)) u32.bits))/\u8.wrap ((↑x:Int).fdiv ((2:Int)^min (Int.toNat (8:Int)) u32.bits))<(↑lU.size:Int)] (ag.leaf aq.ret [int .i64 (i64.wrap (i64.wrap ((0:Int)+8)+i64.wrap (↑(m9 lU (u8.wrap ((↑x:Int).fdiv ((2:Int)^min (Int.toNat (8:Int)) u32.bits))).toNat):Int)))]))) (ag.aj [(0:Int)<=u8.wrap (↑x:Int)/\u8.wrap (↑x:Int)<(↑lU.size:Int)] (ag.leaf aq.ret [int .i64 (i64.wrap ((0:Int)+i64.wrap (↑(m9 lU (u8.wrap (↑x:Int)).toNat):Int)))])))):=ah
theorem xU {i:Nat} (h:i<256):m9 lU i=bN i:=by
 have h8:bN i<=8:=ki.2 aa
 unfold m9
 have:lU.data[i]?=some (UInt8.ofNat (bN i)):=by simp[lU,h]
 rw[this]
 simp only[UInt8.toNat_ofNat']
 omega
theorem Tz:lU.size=256:=by
 show(List.map _ (List.range 256)).toArray.size=256
 simp
theorem uR {x:Nat} {s:Int} (hs:0<=s) (h:s<32):(x:Int).fdiv (2^min s.toNat u32.bits)=((x/2^s.toNat:Nat):Int):=by
 have:u32.bits=32:=rfl
 rw[this,Nat.min_eq_left aa,Int.fdiv_eq_ediv_of_nonneg _ (by exact Int.le_of_lt (Int.pow_pos (by decide)))]
 simp
theorem yA {x:Nat} (h:x<256):u8.wrap (x:Int)=x:=by
 simp[IntKind.wrap,IntKind.bits,IntKind.signed];omega
theorem TW {x:Nat} (hx:x<2^32) (K:Nat) (pre:aD):aN P 170 K [.int .u32 x] pre (aH (.int .i64 (bN x:Nat)) []):=by
 refine bM hT bD hm af1 rfl aW rfl 30 Zb (fun _=>?_) K pre
 have b8:∀i:Nat,i<256->bN i<=8:=fun i h=>ki.2 aa
 rw[uR (by decide) (by decide),uR (by decide) (by decide),uR (by decide) (by decide)]
 simp only[ag.all,au,bz,bG,Tz,show Int.toNat 16=16 from rfl,show Int.toNat 8=8 from rfl]
 refine⟨fun h1=>⟨aa,fun h2=>⟨aa,?_⟩,fun h2=>?_⟩,fun h1=>⟨fun h2=>⟨aa,?_⟩,fun h2=>?_⟩⟩
 ·have h3:x/2^16/2^8<256:=aa
  have e:bN x=16+(8+bN (x/2^16/2^8)):=by rw[ue (k:=16) aa,ue (x:=x/2^16) (k:=8) aa]
  rw[yA h3]
  refine⟨aa,bW ?_⟩
  rw[br,xU h3,e]
  have:=b8 _ h3
  rw[wrap_i64 (x:=((bN (x/2^16/2^8):Nat):Int)) aa aa,wrap_i64 (x:=(16:Int)+8) aa aa,wrap_i64 aa aa]
  omega
 ·have h3:x/2^16<256:=aa
  have e:bN x=16+bN (x/2^16):=by rw[ue (k:=16) aa]
  rw[yA h3]
  refine⟨aa,bW ?_⟩
  rw[br,xU h3,e]
  have:=b8 _ h3
  rw[wrap_i64 (x:=((bN (x/2^16):Nat):Int)) aa aa,wrap_i64 aa aa]
  omega
 ·have h3:x/2^8<256:=aa
  have e:bN x=8+bN (x/2^8):=by rw[ue (k:=8) aa]
  rw[yA h3]
  refine⟨aa,bW ?_⟩
  rw[br,xU h3,e]
  have:=b8 _ h3
  rw[wrap_i64 (x:=((bN (x/2^8):Nat):Int)) aa aa,wrap_i64 (x:=(0:Int)+8) aa aa,wrap_i64 aa aa]
  omega
 ·have h3:x<256:=aa
  rw[yA h3]
  refine⟨aa,bW ?_⟩
  rw[br,xU h3]
  have:=b8 _ h3
  rw[wrap_i64 (x:=((bN x:Nat):Int)) aa aa,wrap_i64 aa aa]
  omega
theorem IU:bf P A0 170:=by
 refine cM fun K args r hk hs _=>?_
 split at hs
 ·rename_i x
  simp only[ax]at hs
  subst hs
  intro need
  obtain⟨h1,h2⟩:0<=x/\x<2^32:=need
  obtain⟨y,rfl⟩:=Int.eq_ofNat_of_zero_le h1
  exact TW (x:=y) aa K [] trivial
 ·simp at hs
theorem adl {x:Nat}:bF T [(170,A0)] [] 30 f173 (aF f173) ⟨aS 0 [.int .u32 x],[],0⟩=
  some (ag.aj [(0:Int)<=(↑x:Int)/\(↑x:Int)<2^32] (ag.leaf aq.ret [int .i64 (i64.wrap ((32:Int)-(↑(bN (↑x:Int).toNat):Int)))])):=ah
theorem XZ {n:Nat} {z:Nat->Nat}:bF T ((170,A0)::G1) [7] 30 f130 (aF f130) ⟨aS 0 [.ak 1 n (aA z)],[],0⟩=
  some (ag.aj [eo n (aA z),n<2^62] (ag.fork ((↑(nl (val n fun(i:Nat)=>numOf (aA z i))):Int)==0) (ag.leaf aq.ret [int .i64 (0:Int)]) (ag.aj [(0:Int)<=i64.wrap ((↑(nl (val n fun(i:Nat)=>numOf (aA z i))):Int)-1)/\(i64.wrap ((↑(nl (val n fun(i:Nat)=>numOf (aA z i))):Int)-1)).toNat<nl (val n fun(i:Nat)=>numOf (aA z i)),(0:Int)<=(↑(aB (val n fun(i:Nat)=>numOf (aA z i)) (i64.wrap ((↑(nl (val n fun(i:Nat)=>numOf (aA z i))):Int)-1)).toNat):Int)/\(↑(aB (val n fun(i:Nat)=>numOf (aA z i)) (i64.wrap ((↑(nl (val n fun(i:Nat)=>numOf (aA z i))):Int)-1)).toNat):Int)<2^32] (ag.leaf aq.ret [int .i64 (i64.wrap (i64.wrap ((32:Int)*i64.wrap ((↑(nl (val n fun(i:Nat)=>numOf (aA z i))):Int)-1))+(↑(bN (↑(aB (val n fun(i:Nat)=>numOf (aA z i)) (i64.wrap ((↑(nl (val n fun(i:Nat)=>numOf (aA z i))):Int)-1)).toNat):Int).toNat):Int)))])))):=ah
theorem adV {x:Nat} (hx:x<2^32) (K:Nat) (pre:aD):aN P 173 K [.int .u32 x] pre (aH (.int .i64 (32-bN x:Nat)) []):=by
 refine bM hT (aE IU bD) hm agm rfl aW rfl 30 adl (fun _=>?_) K pre
 have h1:bN x<=32:=ki.2 hx
 simp only[ag.all,au]
 refine⟨aa,bW ?_⟩
 rw[br,wrap_i64 aa aa];omega
theorem PR {n:Nat} {z:Nat->Nat} (hz:∀i,i<n->z i<2^32) (hn:n<2^40) (K:Nat) (pre:aD):aN P 130 K [.ak 1 n (aA z)] pre (aH (.int .i64 (bN (val n z):Nat)) []):=by
 refine bM hT (aE IU gX) hm UY rfl aW rfl 30 XZ (fun _=>?_) K pre
 have hnl:nl (val n z)<=n:=dL.2 (ga hz)
 simp only[ag.all,au,jO,beq_iff_eq,beq_eq_false_iff_ne,ne_eq]
 generalize val n z=N at*
 refine⟨⟨gD hz,aa⟩,fun h=>bW ?_,fun h=>?_⟩
 ·have:N=0:=by
   rcases Nat.eq_zero_or_pos N with h1|h1
   ·exact h1
   ·have:=gE.2 (show N≠0 by omega);omega
  simp[this,bN]
 ·have h0:N≠0:=gE.1 aa
  have hp:=gE.2 h0
  have e:i64.wrap ((nl N:Int)-1)=((nl N-1:Nat):Int):=by rw[wrap_i64 aa aa];omega
  rw[e,br,br]
  have hl:=dS (N:=N) (i:=nl N-1)
  have hb:=G8 h0
  have h32:bN (aB N (nl N-1))<=32:=ki.2 hl
  refine⟨⟨aa,aa⟩,bW ?_⟩
  rw[hb,wrap_i64 (x:=32*((nl N-1:Nat):Int)) aa aa,wrap_i64 aa aa]
  omega
def LC:Spec:=bX fun l=>match l with
 |[.int .u32 x]=>some (aH (.int .i64 (32-bN x.toNat:Nat)) [0<=x/\x<2^32])
 |_=>none
theorem afj:bf P LC 173:=by
 refine cM fun K args r hk hs _=>?_
 split at hs
 ·rename_i x
  simp only[ax]at hs
  subst hs
  intro need
  obtain⟨h1,h2⟩:0<=x/\x<2^32:=need
  obtain⟨y,rfl⟩:=Int.eq_ofNat_of_zero_le h1
  exact adV (x:=y) aa K [] trivial
 ·simp at hs
def Om (N n:Nat):dw:=aH (.int .i64 (bN N:Nat)) [n<2^40]
theorem Up:bf P (bX (mh Om)) 130:=
 cM (tV fun _ _ K hz need=>PR hz need K [])
end Go.Am.B
