/- bits.Len32, bits.LeadingZeros32, natural.Bits, slices.Clone, slices.Equal. -/
import Derived.Test.YtnniljlepppdpaaGreatB4
set_option linter.unusedVariables false
namespace Go.Am.B
open Go Go.Am.N AV
theorem adX:aU P yK AB (az AB):=aT Proofs.Tryz.func254 ah ah ah
theorem adm:aU P A2 Aw (az Aw):=aT Proofs.Tryz.func288 ah ah ah
theorem SH:aU P xu BD (az BD):=aT Proofs.Tryz.func195 ah ah ah
abbrev lM:ByteArray:=⟨((List.range 256).map fun i=>UInt8.ofNat (bG i)).toArray⟩
def Ho:Spec:=bM fun l=>match l with
 |[.int .u32 x]=>some (aL (.int .i64 (bG x.toNat:Nat)) [0<=x/\x<2^32])
 |_=>none
theorem SQ {x:Nat}:bP T [] [4,8] 30 AB (az AB) ⟨aQ 0 [.int .u32 x],[],0⟩=
  some (ag.fork (decide ((↑x:Int)>=(65536:Int))) (ag.aj [(0:Int)<=(16:Int)] (ag.fork (decide ((↑x:Int).fdiv ((2:Int)^min (Int.toNat (16:Int)) IntKind.u32.bits)>=(256:Int))) (ag.aj [(0:Int)<=(8:Int)] (ag.aj [(0:Int)<=IntKind.u8.wrap (((↑x:Int).fdiv ((2:Int)^min (Int.toNat (16:Int)) IntKind.u32.bits)).fdiv ((2:Int)^min (Int.toNat (8:Int)) IntKind.u32.bits))/\IntKind.u8.wrap (((↑x:Int).fdiv ((2:Int)^min (Int.toNat (16:Int)) IntKind.u32.bits)).fdiv ((2:Int)^min (Int.toNat (8:Int)) IntKind.u32.bits))<(↑lM.size:Int)] (ag.leaf ak.ret [int IntKind.i64 (IntKind.i64.wrap (IntKind.i64.wrap ((16:Int)+(8:Int))+IntKind.i64.wrap (↑(mK lM (IntKind.u8.wrap (((↑x:Int).fdiv ((2:Int)^min (Int.toNat (16:Int)) IntKind.u32.bits)).fdiv ((2:Int)^min (Int.toNat (8:Int)) IntKind.u32.bits))).toNat):Int)))]))) (ag.aj [(0:Int)<=IntKind.u8.wrap ((↑x:Int).fdiv ((2:Int)^min (Int.toNat (16:Int)) IntKind.u32.bits))/\IntKind.u8.wrap ((↑x:Int).fdiv ((2:Int)^min (Int.toNat (16:Int)) IntKind.u32.bits))<(↑lM.size:Int)] (ag.leaf ak.ret [int IntKind.i64 (IntKind.i64.wrap ((16:Int)+IntKind.i64.wrap (↑(mK lM (IntKind.u8.wrap ((↑x:Int).fdiv ((2:Int)^min (Int.toNat (16:Int)) IntKind.u32.bits))).toNat):Int)))])))) (ag.fork (decide ((↑x:Int)>=(256:Int))) (ag.aj [(0:Int)<=(8:Int)] (ag.aj [(0:Int)<=IntKind.u8.wrap ((↑x:Int).fdiv ((2:Int)^min (Int.toNat (8:Int)) IntKind.u32.bits))/\IntKind.u8.wrap ((↑x:Int).fdiv ((2:Int)^min (Int.toNat (8:Int)) IntKind.u32.bits))<(↑lM.size:Int)] (ag.leaf ak.ret [int IntKind.i64 (IntKind.i64.wrap (IntKind.i64.wrap ((0:Int)+(8:Int))+IntKind.i64.wrap (↑(mK lM (IntKind.u8.wrap ((↑x:Int).fdiv ((2:Int)^min (Int.toNat (8:Int)) IntKind.u32.bits))).toNat):Int)))]))) (ag.aj [(0:Int)<=IntKind.u8.wrap (↑x:Int)/\IntKind.u8.wrap (↑x:Int)<(↑lM.size:Int)] (ag.leaf ak.ret [int IntKind.i64 (IntKind.i64.wrap ((0:Int)+IntKind.i64.wrap (↑(mK lM (IntKind.u8.wrap (↑x:Int)).toNat):Int)))])))):=ah
theorem CP {i:Nat} (h:i<256):mK lM i=bG i:=by
 have h8:bG i<=8:=je.2 aa
 unfold mK
 have:lM.data[i]?=some (UInt8.ofNat (bG i)):=by simp[lM,h]
 rw[this]
 simp only[UInt8.toNat_ofNat']
 omega
theorem acj:lM.size=256:=by
 show(List.map _ (List.range 256)).toArray.size=256
 simp
theorem yT {x:Nat} {s:Int} (hs:0<=s) (h:s<32):(x:Int).fdiv (2^min s.toNat IntKind.u32.bits)=((x/2^s.toNat:Nat):Int):=by
 have:IntKind.u32.bits=32:=rfl
 rw[this,Nat.min_eq_left aa,Int.fdiv_eq_ediv_of_nonneg _ (by exact Int.le_of_lt (Int.pow_pos (by decide)))]
 simp
theorem Dw {x:Nat} (h:x<256):IntKind.u8.wrap (x:Int)=x:=by
 simp[IntKind.wrap,IntKind.bits,IntKind.signed];omega
theorem ac8 {x:Nat} (hx:x<2^32) (K:Nat) (pre:aE):aD P yK K [.int .u32 x] pre (aL (.int .i64 (bG x:Nat)) []):=by
 refine bW hT bE hm adX rfl aW rfl 30 SQ (fun _=>?_) K pre
 have b8:∀i:Nat,i<256->bG i<=8:=fun i h=>je.2 aa
 rw[yT (by decide) (by decide),yT (by decide) (by decide),yT (by decide) (by decide)]
 simp only[ag.all,aA,bf,bt,acj,show Int.toNat 16=16 from rfl,show Int.toNat 8=8 from rfl]
 refine⟨fun h1=>⟨aa,fun h2=>⟨aa,?_⟩,fun h2=>?_⟩,fun h1=>⟨fun h2=>⟨aa,?_⟩,fun h2=>?_⟩⟩
 ·have h3:x/2^16/2^8<256:=aa
  have e:bG x=16+(8+bG (x/2^16/2^8)):=by rw[tL (k:=16) aa,tL (x:=x/2^16) (k:=8) aa]
  rw[Dw h3]
  refine⟨aa,bJ ?_⟩
  rw[aX,CP h3,e]
  have:=b8 _ h3
  rw[wrap_i64 (x:=((bG (x/2^16/2^8):Nat):Int)) aa aa,wrap_i64 (x:=(16:Int)+8) aa aa,wrap_i64 aa aa]
  omega
 ·have h3:x/2^16<256:=aa
  have e:bG x=16+bG (x/2^16):=by rw[tL (k:=16) aa]
  rw[Dw h3]
  refine⟨aa,bJ ?_⟩
  rw[aX,CP h3,e]
  have:=b8 _ h3
  rw[wrap_i64 (x:=((bG (x/2^16):Nat):Int)) aa aa,wrap_i64 aa aa]
  omega
 ·have h3:x/2^8<256:=aa
  have e:bG x=8+bG (x/2^8):=by rw[tL (k:=8) aa]
  rw[Dw h3]
  refine⟨aa,bJ ?_⟩
  rw[aX,CP h3,e]
  have:=b8 _ h3
  rw[wrap_i64 (x:=((bG (x/2^8):Nat):Int)) aa aa,wrap_i64 (x:=(0:Int)+8) aa aa,wrap_i64 aa aa]
  omega
 ·have h3:x<256:=aa
  rw[Dw h3]
  refine⟨aa,bJ ?_⟩
  rw[aX,CP h3]
  have:=b8 _ h3
  rw[wrap_i64 (x:=((bG x:Nat):Int)) aa aa,wrap_i64 aa aa]
  omega
theorem Qp:∀K args pre r,Ho K args pre=some r->aD P yK K args pre r:=by
 refine ct fun K args r hk hs _=>?_
 split at hs
 ·rename_i x
  simp only[au]at hs
  subst hs
  intro need
  obtain⟨h1,h2⟩:0<=x/\x<2^32:=need
  obtain⟨y,rfl⟩:=Int.eq_ofNat_of_zero_le h1
  exact ac8 (x:=y) aa K [] trivial
 ·simp at hs
theorem Tb {x:Nat}:bP T [(yK,Ho)] [] 30 Aw (az Aw) ⟨aQ 0 [.int .u32 x],[],0⟩=
  some (ag.aj [(0:Int)<=(↑x:Int)/\(↑x:Int)<(2:Int)^32] (ag.leaf ak.ret [int IntKind.i64 (IntKind.i64.wrap ((32:Int)-(↑(bG (↑x:Int).toNat):Int)))])):=ah
theorem abM {n:Nat} {z:Nat->Nat}:bP T ((yK,Ho)::G1) [7] 30 BD (az BD) ⟨aQ 0 [.aq 1 n (aB z)],[],0⟩=
  some (ag.aj [dN n (aB z),n<2^62] (ag.fork ((↑(nl (val n fun(i:Nat)=>numOf (aB z i))):Int)==(0:Int)) (ag.leaf ak.ret [int IntKind.i64 (0:Int)]) (ag.aj [(0:Int)<=IntKind.i64.wrap ((↑(nl (val n fun(i:Nat)=>numOf (aB z i))):Int)-(1:Int))/\(IntKind.i64.wrap ((↑(nl (val n fun(i:Nat)=>numOf (aB z i))):Int)-(1:Int))).toNat<nl (val n fun(i:Nat)=>numOf (aB z i)),(0:Int)<=(↑(aC (val n fun(i:Nat)=>numOf (aB z i)) (IntKind.i64.wrap ((↑(nl (val n fun(i:Nat)=>numOf (aB z i))):Int)-(1:Int))).toNat):Int)/\(↑(aC (val n fun(i:Nat)=>numOf (aB z i)) (IntKind.i64.wrap ((↑(nl (val n fun(i:Nat)=>numOf (aB z i))):Int)-(1:Int))).toNat):Int)<(2:Int)^32] (ag.leaf ak.ret [int IntKind.i64 (IntKind.i64.wrap (IntKind.i64.wrap ((32:Int)*IntKind.i64.wrap ((↑(nl (val n fun(i:Nat)=>numOf (aB z i))):Int)-(1:Int)))+(↑(bG (↑(aC (val n fun(i:Nat)=>numOf (aB z i)) (IntKind.i64.wrap ((↑(nl (val n fun(i:Nat)=>numOf (aB z i))):Int)-(1:Int))).toNat):Int).toNat):Int)))])))):=ah
theorem aeN {x:Nat} (hx:x<2^32) (K:Nat) (pre:aE):aD P A2 K [.int .u32 x] pre (aL (.int .i64 (32-bG x:Nat)) []):=by
 refine bW hT (aI Qp bE) hm adm rfl aW rfl 30 Tb (fun _=>?_) K pre
 have h1:bG x<=32:=je.2 hx
 simp only[ag.all,aA]
 refine⟨aa,bJ ?_⟩
 rw[aX,wrap_i64 aa aa];omega
theorem ZW {n:Nat} {z:Nat->Nat} (hz:∀i,i<n->z i<2^32) (hn:n<2^40) (K:Nat) (pre:aE):aD P xu K [.aq 1 n (aB z)] pre (aL (.int .i64 (bG (val n z):Nat)) []):=by
 refine bW hT (aI Qp gy) hm SH rfl aW rfl 30 abM (fun _=>?_) K pre
 have hnl:nl (val n z)<=n:=dm.2 (fD hz)
 simp only[ag.all,aA,jE,beq_iff_eq,beq_eq_false_iff_ne,ne_eq]
 generalize val n z=N at*
 refine⟨⟨fW hz,aa⟩,fun h=>bJ ?_,fun h=>?_⟩
 ·have:N=0:=by
   rcases Nat.eq_zero_or_pos N with h1|h1
   ·exact h1
   ·have:=gd.2 (show N≠0 by omega);omega
  simp[this,bG]
 ·have h0:N≠0:=gd.1 aa
  have hp:=gd.2 h0
  have e:IntKind.i64.wrap ((nl N:Int)-1)=((nl N-1:Nat):Int):=by rw[wrap_i64 aa aa];omega
  rw[e,aX,aX]
  have hl:=dG (N:=N) (i:=nl N-1)
  have hb:=Jt h0
  have h32:bG (aC N (nl N-1))<=32:=je.2 hl
  refine⟨⟨aa,aa⟩,bJ ?_⟩
  rw[hb,wrap_i64 (x:=32*((nl N-1:Nat):Int)) aa aa,wrap_i64 aa aa]
  omega
def M7:Spec:=bM fun l=>match l with
 |[.int .u32 x]=>some (aL (.int .i64 (32-bG x.toNat:Nat)) [0<=x/\x<2^32])
 |_=>none
theorem YH:∀K args pre r,M7 K args pre=some r->aD P A2 K args pre r:=by
 refine ct fun K args r hk hs _=>?_
 split at hs
 ·rename_i x
  simp only[au]at hs
  subst hs
  intro need
  obtain⟨h1,h2⟩:0<=x/\x<2^32:=need
  obtain⟨y,rfl⟩:=Int.eq_ofNat_of_zero_le h1
  exact aeN (x:=y) aa K [] trivial
 ·simp at hs
def HJ (N n:Nat):cZ:=aL (.int .i64 (bG N:Nat)) [n<2^40]
theorem LD:∀K args pre r,bM (lN HJ) K args pre=some r->aD P xu K args pre r:=
 ct (ve fun _ _ K hz need=>ZW hz need K [])
end Go.Am.B
