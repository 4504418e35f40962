/- bits.Len32, bits.LeadingZeros32, natural.Bits, slices.Clone, slices.Equal. -/
import Derived.Test.YtolopdkjjlfgjaaGreatB4
set_option linter.unusedVariables false
namespace Go.Am.B
open Go Go.Am.N AV Proofs.Tryz IntKind
theorem adh:bu 162 f162:=bz func162
theorem QK:bu 184 f184:=bz func184
theorem aa2:bu 126 f126:=bz func126
abbrev mD:ByteArray:=⟨((List.range 256).map fun i=>UInt8.ofNat (bP i)).toArray⟩
def DK:Spec:=b7 fun l=>match l with
 |[.int .u32 x]=>some (aM (.int .i64 (bP x.toNat:Nat)) [0<=x/\x<2^32])
 |_=>none
theorem abE {x:Nat}:cq T [] [4,8] 30 f162 (aG f162) ⟨aV 0 [.int .u32 x],[],0⟩=
  some (af.fork (decide ((↑x:Int)>=65536)) (af.aj [(0:Int)<=16] (af.fork (decide ((↑x:Int).fdiv ((2:Int)^min (Int.toNat (16:Int)) u32.bits)>=256)) (af.aj [(0:Int)<=8] (af.aj [(0:Int)<=u8.wrap (((↑x:Int).fdiv ((2:Int)^min (Int.toNat (16:Int)) u32.bits)).fdiv ((2:Int)^min (Int.toNat (8:Int)) u32.bits))/\u8.wrap (((↑x:Int).fdiv ((2:Int)^min (Int.toNat (16:Int)) u32.bits)).fdiv ((2:Int)^min (Int.toNat (8:Int)) u32.bits))<(↑mD.size:Int)] (af.leaf ak.ret [int .i64 (i64.wrap (i64.wrap ((16:Int)+8)+i64.wrap (↑(nj mD (u8.wrap (((↑x:Int).fdiv ((2:Int)^min (Int.toNat (16:Int)) u32.bits)).fdiv ((2:Int)^min (Int.toNat (8:Int)) u32.bits))).toNat):Int)))]))) (af.aj [(0:Int)<=u8.wrap ((↑x:Int).fdiv ((2:Int)^min (Int.toNat (16:Int)) u32.bits))/\u8.wrap ((↑x:Int).fdiv ((2:Int)^min (Int.toNat (16:Int)) u32.bits))<(↑mD.size:Int)] (af.leaf ak.ret [int .i64 (i64.wrap ((16:Int)+i64.wrap (↑(nj mD (u8.wrap ((↑x:Int).fdiv ((2:Int)^min (Int.toNat (16:Int)) u32.bits))).toNat):Int)))])))) (af.fork (decide ((↑x:Int)>=256)) (af.aj [(0:Int)<=8] (af.aj [(0:Int)<=u8.wrap ((↑x:Int).fdiv ((2:Int)^min (Int.toNat (8:Int)) u32.bits))/\u8.wrap ((↑x:Int).fdiv ((2:Int)^min (Int.toNat (8:Int)) u32.bits))<(↑mD.size:Int)] (af.leaf ak.ret [int .i64 (i64.wrap (i64.wrap ((0:Int)+8)+i64.wrap (↑(nj mD (u8.wrap ((↑x:Int).fdiv ((2:Int)^min (Int.toNat (8:Int)) u32.bits))).toNat):Int)))]))) (af.aj [(0:Int)<=u8.wrap (↑x:Int)/\u8.wrap (↑x:Int)<(↑mD.size:Int)] (af.leaf ak.ret [int .i64 (i64.wrap ((0:Int)+i64.wrap (↑(nj mD (u8.wrap (↑x:Int)).toNat):Int)))])))):=ag
theorem Aj {i:Nat} (h:i<256):nj mD i=bP i:=by
 have h8:bP i<=8:=j5.2 aa
 unfold nj
 have:mD.data[i]?=some (UInt8.ofNat (bP i)):=by simp[mD,h]
 rw[this]
 simp only[UInt8.toNat_ofNat']
 omega
theorem WD:mD.size=256:=by
 show(List.map _ (List.range 256)).toArray.size=256
 simp
theorem x7 {x:Nat} {s:Int} (hs:0<=s) (h:s<32):(x:Int).fdiv (2^min s.toNat u32.bits)=((x/2^s.toNat:Nat):Int):=by
 have:u32.bits=32:=rfl
 rw[this,Nat.min_eq_left aa,Int.fdiv_eq_ediv_of_nonneg _ (by exact Int.le_of_lt (Int.pow_pos (by decide)))]
 simp
theorem yP {x:Nat} (h:x<256):u8.wrap (x:Int)=x:=by
 simp[IntKind.wrap,IntKind.bits,IntKind.signed];omega
theorem abF {x:Nat} (hx:x<2^32) (K:Nat) (pre:aD):aQ P 162 K [.int .u32 x] pre (aM (.int .i64 (bP x:Nat)) []):=by
 refine cA hT ct hm adh rfl bp rfl 30 abE (fun _=>?_) K pre
 have b8:∀i:Nat,i<256->bP i<=8:=fun i h=>j5.2 aa
 rw[x7 (by decide) (by decide),x7 (by decide) (by decide),x7 (by decide) (by decide)]
 simp only[af.all,aA,bK,bO,WD,show Int.toNat 16=16 from rfl,show Int.toNat 8=8 from rfl]
 refine⟨fun h1=>⟨aa,fun h2=>⟨aa,?_⟩,fun h2=>?_⟩,fun h1=>⟨fun h2=>⟨aa,?_⟩,fun h2=>?_⟩⟩
 ·have h3:x/2^16/2^8<256:=aa
  have e:bP x=16+(8+bP (x/2^16/2^8)):=by rw[uG (k:=16) aa,uG (x:=x/2^16) (k:=8) aa]
  rw[yP h3]
  refine⟨aa,bV ?_⟩
  rw[bE,Aj h3,e]
  have:=b8 _ h3
  rw[wrap_i64 (x:=((bP (x/2^16/2^8):Nat):Int)) aa aa,wrap_i64 (x:=(16:Int)+8) aa aa,wrap_i64 aa aa]
  omega
 ·have h3:x/2^16<256:=aa
  have e:bP x=16+bP (x/2^16):=by rw[uG (k:=16) aa]
  rw[yP h3]
  refine⟨aa,bV ?_⟩
  rw[bE,Aj h3,e]
  have:=b8 _ h3
  rw[wrap_i64 (x:=((bP (x/2^16):Nat):Int)) aa aa,wrap_i64 aa aa]
  omega
 ·have h3:x/2^8<256:=aa
  have e:bP x=8+bP (x/2^8):=by rw[uG (k:=8) aa]
  rw[yP h3]
  refine⟨aa,bV ?_⟩
  rw[bE,Aj h3,e]
  have:=b8 _ h3
  rw[wrap_i64 (x:=((bP (x/2^8):Nat):Int)) aa aa,wrap_i64 (x:=(0:Int)+8) aa aa,wrap_i64 aa aa]
  omega
 ·have h3:x<256:=aa
  rw[yP h3]
  refine⟨aa,bV ?_⟩
  rw[bE,Aj h3]
  have:=b8 _ h3
  rw[wrap_i64 (x:=((bP x:Nat):Int)) aa aa,wrap_i64 aa aa]
  omega
theorem Kl:bA P DK 162:=by
 refine cP fun K args r hk hs _=>?_
 split at hs
 ·rename_i x
  simp only[ax]at hs
  subst hs
  intro need
  obtain⟨h1,h2⟩:0<=x/\x<2^32:=need
  obtain⟨y,rfl⟩:=Int.eq_ofNat_of_zero_le h1
  exact abF (x:=y) aa K [] trivial
 ·simp at hs
theorem acA {x:Nat}:cq T [(162,DK)] [] 30 f184 (aG f184) ⟨aV 0 [.int .u32 x],[],0⟩=
  some (af.aj [(0:Int)<=(↑x:Int)/\(↑x:Int)<2^32] (af.leaf ak.ret [int .i64 (i64.wrap ((32:Int)-(↑(bP (↑x:Int).toNat):Int)))])):=ag
theorem Y8 {n:Nat} {z:Nat->Nat}:cq T ((162,DK)::G1) [7] 30 f126 (aG f126) ⟨aV 0 [.aq 1 n (az z)],[],0⟩=
  some (af.aj [eP n (az z),n<2^62] (af.fork ((↑(nl (val n fun(i:Nat)=>numOf (az z i))):Int)==0) (af.leaf ak.ret [int .i64 (0:Int)]) (af.aj [(0:Int)<=i64.wrap ((↑(nl (val n fun(i:Nat)=>numOf (az z i))):Int)-1)/\(i64.wrap ((↑(nl (val n fun(i:Nat)=>numOf (az z i))):Int)-1)).toNat<nl (val n fun(i:Nat)=>numOf (az z i)),(0:Int)<=(↑(aB (val n fun(i:Nat)=>numOf (az z i)) (i64.wrap ((↑(nl (val n fun(i:Nat)=>numOf (az z i))):Int)-1)).toNat):Int)/\(↑(aB (val n fun(i:Nat)=>numOf (az z i)) (i64.wrap ((↑(nl (val n fun(i:Nat)=>numOf (az z i))):Int)-1)).toNat):Int)<2^32] (af.leaf ak.ret [int .i64 (i64.wrap (i64.wrap ((32:Int)*i64.wrap ((↑(nl (val n fun(i:Nat)=>numOf (az z i))):Int)-1))+(↑(bP (↑(aB (val n fun(i:Nat)=>numOf (az z i)) (i64.wrap ((↑(nl (val n fun(i:Nat)=>numOf (az z i))):Int)-1)).toNat):Int).toNat):Int)))])))):=ag
theorem PE {x:Nat} (hx:x<2^32) (K:Nat) (pre:aD):aQ P 184 K [.int .u32 x] pre (aM (.int .i64 (32-bP x:Nat)) []):=by
 refine cA hT (aN Kl ct) hm QK rfl bp rfl 30 acA (fun _=>?_) K pre
 have h1:bP x<=32:=j5.2 hx
 simp only[af.all,aA]
 refine⟨aa,bV ?_⟩
 rw[bE,wrap_i64 aa aa];omega
theorem VB {n:Nat} {z:Nat->Nat} (hz:∀i,i<n->z i<2^32) (hn:n<2^40) (K:Nat) (pre:aD):aQ P 126 K [.aq 1 n (az z)] pre (aM (.int .i64 (bP (val n z):Nat)) []):=by
 refine cA hT (aN Kl iA) hm aa2 rfl bp rfl 30 Y8 (fun _=>?_) K pre
 have hnl:nl (val n z)<=n:=ec.2 (gH hz)
 simp only[af.all,aA,kj,beq_iff_eq,beq_eq_false_iff_ne,ne_eq]
 generalize val n z=N at*
 refine⟨⟨g9 hz,aa⟩,fun h=>bV ?_,fun h=>?_⟩
 ·have:N=0:=by
   rcases Nat.eq_zero_or_pos N with h1|h1
   ·exact h1
   ·have:=gZ.2 (show N≠0 by omega);omega
  simp[this,bP]
 ·have h0:N≠0:=gZ.1 aa
  have hp:=gZ.2 h0
  have e:i64.wrap ((nl N:Int)-1)=((nl N-1:Nat):Int):=by rw[wrap_i64 aa aa];omega
  rw[e,bE,bE]
  have hl:=eA (N:=N) (i:=nl N-1)
  have hb:=Ik h0
  have h32:bP (aB N (nl N-1))<=32:=j5.2 hl
  refine⟨⟨aa,aa⟩,bV ?_⟩
  rw[hb,wrap_i64 (x:=32*((nl N-1:Nat):Int)) aa aa,wrap_i64 aa aa]
  omega
def Ih:Spec:=b7 fun l=>match l with
 |[.int .u32 x]=>some (aM (.int .i64 (32-bP x.toNat:Nat)) [0<=x/\x<2^32])
 |_=>none
theorem Yy:bA P Ih 184:=by
 refine cP fun K args r hk hs _=>?_
 split at hs
 ·rename_i x
  simp only[ax]at hs
  subst hs
  intro need
  obtain⟨h1,h2⟩:0<=x/\x<2^32:=need
  obtain⟨y,rfl⟩:=Int.eq_ofNat_of_zero_le h1
  exact PE (x:=y) aa K [] trivial
 ·simp at hs
def Gw (N n:Nat):dP:=aM (.int .i64 (bP N:Nat)) [n<2^40]
theorem Uj:bA P (b7 (mT Gw)) 126:=
 cP (tf fun _ _ K hz need=>VB hz need K [])
end Go.Am.B
