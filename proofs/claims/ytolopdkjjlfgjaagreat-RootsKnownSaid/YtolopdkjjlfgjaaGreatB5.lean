/- bits.Len32, bits.LeadingZeros32, natural.Bits, slices.Clone, slices.Equal. -/
import Derived.Test.YtolopdkjjlfgjaaGreatB4
set_option linter.unusedVariables false
namespace Go.Am.B
open Go Go.Am.N AV Proofs.Tryz IntKind
theorem S6:bC 162 f162:=bD func162
theorem Yu:bC 184 f184:=bD func184
theorem adQ:bC 126 f126:=bD func126
abbrev ng:ByteArray:=⟨((List.range 256).map fun i=>UInt8.ofNat (bS i)).toArray⟩
def Gs:Spec:=cw fun l=>match l with
 |[.int .u32 x]=>some (aT (.int .i64 (bS x.toNat:Nat)) [0<=x/\x<2^32])
 |_=>none
theorem aaB {x:Nat}:cy T [] [4,8] 30 f162 (aJ f162) ⟨bf 0 [.int .u32 x],[],0⟩=
  some (af.fork (decide ((↑x:Int)>=65536)) (af.aj [(0:Int)<=16] (af.fork (decide ((↑x:Int).fdiv ((2:Int)^min (Int.toNat (16:Int)) u32.bits)>=256)) (af.aj [(0:Int)<=8] (af.aj [(0:Int)<=u8.wrap (((↑x:Int).fdiv ((2:Int)^min (Int.toNat (16:Int)) u32.bits)).fdiv ((2:Int)^min (Int.toNat (8:Int)) u32.bits))/\u8.wrap (((↑x:Int).fdiv ((2:Int)^min (Int.toNat (16:Int)) u32.bits)).fdiv ((2:Int)^min (Int.toNat (8:Int)) u32.bits))<(↑ng.size:Int)] (af.leaf au.ret [int .i64 (i64.wrap (i64.wrap ((16:Int)+8)+i64.wrap (↑(o5 ng (u8.wrap (((↑x:Int).fdiv ((2:Int)^min (Int.toNat (16:Int)) u32.bits)).fdiv ((2:Int)^min (Int.toNat (8:Int)) u32.bits))).toNat):Int)))]))) (af.aj [(0:Int)<=u8.wrap ((↑x:Int).fdiv ((2:Int)^min (Int.toNat (16:Int)) u32.bits))/\u8.wrap ((↑x:Int).fdiv ((2:Int)^min (Int.toNat (16:Int)) u32.bits))<(↑ng.size:Int)] (af.leaf au.ret [int .i64 (i64.wrap ((16:Int)+i64.wrap (↑(o5 ng (u8.wrap ((↑x:Int).fdiv ((2:Int)^min (Int.toNat (16:Int)) u32.bits))).toNat):Int)))])))) (af.fork (decide ((↑x:Int)>=256)) (af.aj [(0:Int)<=8] (af.aj [(0:Int)<=u8.wrap ((↑x:Int).fdiv ((2:Int)^min (Int.toNat (8:Int)) u32.bits))/\u8.wrap ((↑x:Int).fdiv ((2:Int)^min (Int.toNat (8:Int)) u32.bits))<(↑ng.size:Int)] (af.leaf au.ret [int .i64 (i64.wrap (i64.wrap ((0:Int)+8)+i64.wrap (↑(o5 ng (u8.wrap ((↑x:Int).fdiv ((2:Int)^min (Int.toNat (8:Int)) u32.bits))).toNat):Int)))]))) (af.aj [(0:Int)<=u8.wrap (↑x:Int)/\u8.wrap (↑x:Int)<(↑ng.size:Int)] (af.leaf au.ret [int .i64 (i64.wrap ((0:Int)+i64.wrap (↑(o5 ng (u8.wrap (↑x:Int)).toNat):Int)))])))):=ah
theorem Cr {i:Nat} (h:i<256):o5 ng i=bS i:=by
 have h8:bS i<=8:=lD.2 aa
 unfold o5
 have:ng.data[i]?=some (UInt8.ofNat (bS i)):=by simp[ng,h]
 rw[this]
 simp only[UInt8.toNat_ofNat']
 omega
theorem Y1:ng.size=256:=by
 show(List.map _ (List.range 256)).toArray.size=256
 simp
theorem ye {x:Nat} {s:Int} (hs:0<=s) (h:s<32):(x:Int).fdiv (2^min s.toNat u32.bits)=((x/2^s.toNat:Nat):Int):=by
 have:u32.bits=32:=rfl
 rw[this,Nat.min_eq_left aa,Int.fdiv_eq_ediv_of_nonneg _ (by exact Int.le_of_lt (Int.pow_pos (by decide)))]
 simp
theorem AP {x:Nat} (h:x<256):u8.wrap (x:Int)=x:=by
 simp[IntKind.wrap,IntKind.bits,IntKind.signed];omega
theorem Yf {x:Nat} (hx:x<2^32) (K:Nat) (pre:aG):aY P 162 K [.int .u32 x] pre (aT (.int .i64 (bS x:Nat)) []):=by
 refine cB hT cK hm S6 rfl br rfl 30 aaB (fun _=>?_) K pre
 have b8:∀i:Nat,i<256->bS i<=8:=fun i h=>lD.2 aa
 rw[ye (by decide) (by decide),ye (by decide) (by decide),ye (by decide) (by decide)]
 simp only[af.all,aF,bI,bO,Y1,show Int.toNat 16=16 from rfl,show Int.toNat 8=8 from rfl]
 refine⟨fun h1=>⟨aa,fun h2=>⟨aa,?_⟩,fun h2=>?_⟩,fun h1=>⟨fun h2=>⟨aa,?_⟩,fun h2=>?_⟩⟩
 ·have h3:x/2^16/2^8<256:=aa
  have e:bS x=16+(8+bS (x/2^16/2^8)):=by rw[uq (k:=16) aa,uq (x:=x/2^16) (k:=8) aa]
  rw[AP h3]
  refine⟨aa,cu ?_⟩
  rw[bJ,Cr h3,e]
  have:=b8 _ h3
  rw[wrap_i64 (x:=((bS (x/2^16/2^8):Nat):Int)) aa aa,wrap_i64 (x:=(16:Int)+8) aa aa,wrap_i64 aa aa]
  omega
 ·have h3:x/2^16<256:=aa
  have e:bS x=16+bS (x/2^16):=by rw[uq (k:=16) aa]
  rw[AP h3]
  refine⟨aa,cu ?_⟩
  rw[bJ,Cr h3,e]
  have:=b8 _ h3
  rw[wrap_i64 (x:=((bS (x/2^16):Nat):Int)) aa aa,wrap_i64 aa aa]
  omega
 ·have h3:x/2^8<256:=aa
  have e:bS x=8+bS (x/2^8):=by rw[uq (k:=8) aa]
  rw[AP h3]
  refine⟨aa,cu ?_⟩
  rw[bJ,Cr h3,e]
  have:=b8 _ h3
  rw[wrap_i64 (x:=((bS (x/2^8):Nat):Int)) aa aa,wrap_i64 (x:=(0:Int)+8) aa aa,wrap_i64 aa aa]
  omega
 ·have h3:x<256:=aa
  rw[AP h3]
  refine⟨aa,cu ?_⟩
  rw[bJ,Cr h3]
  have:=b8 _ h3
  rw[wrap_i64 (x:=((bS x:Nat):Int)) aa aa,wrap_i64 aa aa]
  omega
theorem Kb:bF P Gs 162:=by
 refine cX fun K args r hk hs _=>?_
 split at hs
 ·rename_i x
  simp only[aB]at hs
  subst hs
  intro need
  obtain⟨h1,h2⟩:0<=x/\x<2^32:=need
  obtain⟨y,rfl⟩:=Int.eq_ofNat_of_zero_le h1
  exact Yf (x:=y) aa K [] trivial
 ·simp at hs
theorem U7 {x:Nat}:cy T [(162,Gs)] [] 30 f184 (aJ f184) ⟨bf 0 [.int .u32 x],[],0⟩=
  some (af.aj [(0:Int)<=(↑x:Int)/\(↑x:Int)<2^32] (af.leaf au.ret [int .i64 (i64.wrap ((32:Int)-(↑(bS (↑x:Int).toNat):Int)))])):=ah
theorem Qe {n:Nat} {z:Nat->Nat}:cy T ((162,Gs)::G1) [7] 30 f126 (aJ f126) ⟨bf 0 [.az 1 n (aD z)],[],0⟩=
  some (af.aj [fq n (aD z),n<2^62] (af.fork ((↑(nl (val n fun(i:Nat)=>numOf (aD z i))):Int)==0) (af.leaf au.ret [int .i64 (0:Int)]) (af.aj [(0:Int)<=i64.wrap ((↑(nl (val n fun(i:Nat)=>numOf (aD z i))):Int)-1)/\(i64.wrap ((↑(nl (val n fun(i:Nat)=>numOf (aD z i))):Int)-1)).toNat<nl (val n fun(i:Nat)=>numOf (aD z i)),(0:Int)<=(↑(aE (val n fun(i:Nat)=>numOf (aD z i)) (i64.wrap ((↑(nl (val n fun(i:Nat)=>numOf (aD z i))):Int)-1)).toNat):Int)/\(↑(aE (val n fun(i:Nat)=>numOf (aD z i)) (i64.wrap ((↑(nl (val n fun(i:Nat)=>numOf (aD z i))):Int)-1)).toNat):Int)<2^32] (af.leaf au.ret [int .i64 (i64.wrap (i64.wrap ((32:Int)*i64.wrap ((↑(nl (val n fun(i:Nat)=>numOf (aD z i))):Int)-1))+(↑(bS (↑(aE (val n fun(i:Nat)=>numOf (aD z i)) (i64.wrap ((↑(nl (val n fun(i:Nat)=>numOf (aD z i))):Int)-1)).toNat):Int).toNat):Int)))])))):=ah
theorem Xk {x:Nat} (hx:x<2^32) (K:Nat) (pre:aG):aY P 184 K [.int .u32 x] pre (aT (.int .i64 (32-bS x:Nat)) []):=by
 refine cB hT (aM Kb cK) hm Yu rfl br rfl 30 U7 (fun _=>?_) K pre
 have h1:bS x<=32:=lD.2 hx
 simp only[af.all,aF]
 refine⟨aa,cu ?_⟩
 rw[bJ,wrap_i64 aa aa];omega
theorem aac {n:Nat} {z:Nat->Nat} (hz:∀i,i<n->z i<2^32) (hn:n<2^40) (K:Nat) (pre:aG):aY P 126 K [.az 1 n (aD z)] pre (aT (.int .i64 (bS (val n z):Nat)) []):=by
 refine cB hT (aM Kb jc) hm adQ rfl br rfl 30 Qe (fun _=>?_) K pre
 have hnl:nl (val n z)<=n:=eo.2 (ig hz)
 simp only[af.all,aF,kV,beq_iff_eq,beq_eq_false_iff_ne,ne_eq]
 generalize val n z=N at*
 refine⟨⟨iM hz,aa⟩,fun h=>cu ?_,fun h=>?_⟩
 ·have:N=0:=by
   rcases Nat.eq_zero_or_pos N with h1|h1
   ·exact h1
   ·have:=iP.2 (show N≠0 by omega);omega
  simp[this,bS]
 ·have h0:N≠0:=iP.1 aa
  have hp:=iP.2 h0
  have e:i64.wrap ((nl N:Int)-1)=((nl N-1:Nat):Int):=by rw[wrap_i64 aa aa];omega
  rw[e,bJ,bJ]
  have hl:=eJ (N:=N) (i:=nl N-1)
  have hb:=IC h0
  have h32:bS (aE N (nl N-1))<=32:=lD.2 hl
  refine⟨⟨aa,aa⟩,cu ?_⟩
  rw[hb,wrap_i64 (x:=32*((nl N-1:Nat):Int)) aa aa,wrap_i64 aa aa]
  omega
def Jg:Spec:=cw fun l=>match l with
 |[.int .u32 x]=>some (aT (.int .i64 (32-bS x.toNat:Nat)) [0<=x/\x<2^32])
 |_=>none
theorem YK:bF P Jg 184:=by
 refine cX fun K args r hk hs _=>?_
 split at hs
 ·rename_i x
  simp only[aB]at hs
  subst hs
  intro need
  obtain⟨h1,h2⟩:0<=x/\x<2^32:=need
  obtain⟨y,rfl⟩:=Int.eq_ofNat_of_zero_le h1
  exact Xk (x:=y) aa K [] trivial
 ·simp at hs
def GJ (N n:Nat):dS:=aT (.int .i64 (bS N:Nat)) [n<2^40]
theorem Na:bF P (cw (nD GJ)) 126:=
 cX (vL fun _ _ K hz need=>aac hz need K [])
end Go.Am.B
