/- bits.Len32, bits.LeadingZeros32, natural.Bits, slices.Clone, slices.Equal. -/
import Derived.Test.YtgfjdngnneoeoaaGreatB4
set_option linter.unusedVariables false
namespace Go.Am.B
open Go Go.Am.N AV Proofs.Tryz IntKind
theorem ae7:aW 170 f170:=aN func170
theorem afw:aW 173 f173:=aN func173
theorem ahg:aW 130 f130:=aN func130
abbrev kZ:ByteArray:=⟨((List.range 256).map fun i=>UInt8.ofNat (bO i)).toArray⟩
def CS:Spec:=bY fun l=>match l with
 |[.int .u32 x]=>some (aI (.int .i64 (bO x.toNat:Nat)) [0<=x/\x<2^32])
 |_=>none
theorem af4 {x:Nat}:bD T [] [4,8] 30 f170 (aF f170) ⟨aT 0 [.int .u32 x],[],0⟩=
  some (ag.fork (decide ((↑x:Int)>=65536)) (ag.aj [(0:Int)<=16] (ag.fork (decide ((↑x:Int).fdiv ((2:Int)^min (Int.toNat (16:Int)) u32.bits)>=256)) (ag.aj [(0:Int)<=8] (ag.aj [(0:Int)<=u8.wrap (((↑x:Int).fdiv ((2:Int)^min (Int.toNat (16:Int)) u32.bits)).fdiv ((2:Int)^min (Int.toNat (8:Int)) u32.bits))/\u8.wrap (((↑x:Int).fdiv ((2:Int)^min (Int.toNat (16:Int)) u32.bits)).fdiv ((2:Int)^min (Int.toNat (8:Int)) u32.bits))<(↑kZ.size:Int)] (ag.leaf ak.ret [int .i64 (i64.wrap (i64.wrap ((16:Int)+8)+i64.wrap (↑(mP kZ (u8.wrap (((↑x:Int).fdiv ((2:Int)^min (Int.toNat (16:Int)) u32.bits)).fdiv ((2:Int)^min (Int.toNat (8:Int)) u32.bits))).toNat):Int)))]))) (ag.aj [(0:Int)<=u8.wrap ((↑x:Int).fdiv ((2:Int)^min (Int.toNat (16:Int)) u32.bits))/\u8.wrap ((↑x:Int).fdiv ((2:Int)^min (Int.toNat (16:Int)) u32.bits))<(↑kZ.size:Int)] (ag.leaf ak.ret [int .i64 (i64.wrap ((16:Int)+i64.wrap (↑(mP kZ (u8.wrap ((↑x:Int).fdiv ((2:Int)^min (Int.toNat (16:Int)) u32.bits))).toNat):Int)))])))) (ag.fork (decide ((↑x:Int)>=256)) (ag.aj [(0:Int)<=8] (ag.aj [(0:Int)<=u8.wrap ((↑x:Int).fdiv ((2:Int)^min (Int.toNat (8:Int)) u32.bits))/\u8.wrap ((↑x:Int).fdiv ((2:Int)^min (Int.toNat (8:Int)) u32.bits))<(↑kZ.size:Int)] (ag.leaf ak.ret [int .i64 (i64.wrap (i64.wrap ((0:Int)+8)+i64.wrap (↑(mP kZ (u8.wrap ((↑x:Int).fdiv ((2:Int)^min (Int.toNat (8:Int)) u32.bits))).toNat):Int)))]))) (ag.aj [(0:Int)<=u8.wrap (↑x:Int)/\u8.wrap (↑x:Int)<(↑kZ.size:Int)] (ag.leaf ak.ret [int .i64 (i64.wrap ((0:Int)+i64.wrap (↑(mP kZ (u8.wrap (↑x:Int)).toNat):Int)))])))):=ah
theorem x4 {i:Nat} (h:i<256):mP kZ i=bO i:=by
 have h8:bO i<=8:=j5.2 aa
 unfold mP
 have:kZ.data[i]?=some (UInt8.ofNat (bO i)):=by simp[kZ,h]
 rw[this]
 simp only[UInt8.toNat_ofNat']
 omega
theorem abV:kZ.size=256:=by
 show(List.map _ (List.range 256)).toArray.size=256
 simp
theorem uf {x:Nat} {s:Int} (hs:0<=s) (h:s<32):(x:Int).fdiv (2^min s.toNat u32.bits)=((x/2^s.toNat:Nat):Int):=by
 have:u32.bits=32:=rfl
 rw[this,Nat.min_eq_left aa,Int.fdiv_eq_ediv_of_nonneg _ (by exact Int.le_of_lt (Int.pow_pos (by decide)))]
 simp
theorem yb {x:Nat} (h:x<256):u8.wrap (x:Int)=x:=by
 simp[IntKind.wrap,IntKind.bits,IntKind.signed];omega
theorem R5 {x:Nat} (hx:x<2^32) (K:Nat) (pre:aD):aO P 170 K [.int .u32 x] pre (aI (.int .i64 (bO x:Nat)) []):=by
 refine bJ hT bA hm ae7 rfl aV rfl 30 af4 (fun _=>?_) K pre
 have b8:∀i:Nat,i<256->bO i<=8:=fun i h=>j5.2 aa
 rw[uf (by decide) (by decide),uf (by decide) (by decide),uf (by decide) (by decide)]
 simp only[ag.all,au,bz,bF,abV,show Int.toNat 16=16 from rfl,show Int.toNat 8=8 from rfl]
 refine⟨fun h1=>⟨aa,fun h2=>⟨aa,?_⟩,fun h2=>?_⟩,fun h1=>⟨fun h2=>⟨aa,?_⟩,fun h2=>?_⟩⟩
 ·have h3:x/2^16/2^8<256:=aa
  have e:bO x=16+(8+bO (x/2^16/2^8)):=by rw[tH (k:=16) aa,tH (x:=x/2^16) (k:=8) aa]
  rw[yb h3]
  refine⟨aa,bU ?_⟩
  rw[bw,x4 h3,e]
  have:=b8 _ h3
  rw[wrap_i64 (x:=((bO (x/2^16/2^8):Nat):Int)) aa aa,wrap_i64 (x:=(16:Int)+8) aa aa,wrap_i64 aa aa]
  omega
 ·have h3:x/2^16<256:=aa
  have e:bO x=16+bO (x/2^16):=by rw[tH (k:=16) aa]
  rw[yb h3]
  refine⟨aa,bU ?_⟩
  rw[bw,x4 h3,e]
  have:=b8 _ h3
  rw[wrap_i64 (x:=((bO (x/2^16):Nat):Int)) aa aa,wrap_i64 aa aa]
  omega
 ·have h3:x/2^8<256:=aa
  have e:bO x=8+bO (x/2^8):=by rw[tH (k:=8) aa]
  rw[yb h3]
  refine⟨aa,bU ?_⟩
  rw[bw,x4 h3,e]
  have:=b8 _ h3
  rw[wrap_i64 (x:=((bO (x/2^8):Nat):Int)) aa aa,wrap_i64 (x:=(0:Int)+8) aa aa,wrap_i64 aa aa]
  omega
 ·have h3:x<256:=aa
  rw[yb h3]
  refine⟨aa,bU ?_⟩
  rw[bw,x4 h3]
  have:=b8 _ h3
  rw[wrap_i64 (x:=((bO x:Nat):Int)) aa aa,wrap_i64 aa aa]
  omega
theorem Mq:aY P CS 170:=by
 refine cJ fun K args r hk hs _=>?_
 split at hs
 ·rename_i x
  simp only[ax]at hs
  subst hs
  intro need
  obtain⟨h1,h2⟩:0<=x/\x<2^32:=need
  obtain⟨y,rfl⟩:=Int.eq_ofNat_of_zero_le h1
  exact R5 (x:=y) aa K [] trivial
 ·simp at hs
theorem PG {x:Nat}:bD T [(170,CS)] [] 30 f173 (aF f173) ⟨aT 0 [.int .u32 x],[],0⟩=
  some (ag.aj [(0:Int)<=(↑x:Int)/\(↑x:Int)<2^32] (ag.leaf ak.ret [int .i64 (i64.wrap ((32:Int)-(↑(bO (↑x:Int).toNat):Int)))])):=ah
theorem Rz {n:Nat} {z:Nat->Nat}:bD T ((170,CS)::G1) [7] 30 f130 (aF f130) ⟨aT 0 [.aq 1 n (aA z)],[],0⟩=
  some (ag.aj [ee n (aA z),n<2^62] (ag.fork ((↑(nl (val n fun(i:Nat)=>numOf (aA z i))):Int)==0) (ag.leaf ak.ret [int .i64 (0:Int)]) (ag.aj [(0:Int)<=i64.wrap ((↑(nl (val n fun(i:Nat)=>numOf (aA z i))):Int)-1)/\(i64.wrap ((↑(nl (val n fun(i:Nat)=>numOf (aA z i))):Int)-1)).toNat<nl (val n fun(i:Nat)=>numOf (aA z i)),(0:Int)<=(↑(aB (val n fun(i:Nat)=>numOf (aA z i)) (i64.wrap ((↑(nl (val n fun(i:Nat)=>numOf (aA z i))):Int)-1)).toNat):Int)/\(↑(aB (val n fun(i:Nat)=>numOf (aA z i)) (i64.wrap ((↑(nl (val n fun(i:Nat)=>numOf (aA z i))):Int)-1)).toNat):Int)<2^32] (ag.leaf ak.ret [int .i64 (i64.wrap (i64.wrap ((32:Int)*i64.wrap ((↑(nl (val n fun(i:Nat)=>numOf (aA z i))):Int)-1))+(↑(bO (↑(aB (val n fun(i:Nat)=>numOf (aA z i)) (i64.wrap ((↑(nl (val n fun(i:Nat)=>numOf (aA z i))):Int)-1)).toNat):Int).toNat):Int)))])))):=ah
theorem Rq {x:Nat} (hx:x<2^32) (K:Nat) (pre:aD):aO P 173 K [.int .u32 x] pre (aI (.int .i64 (32-bO x:Nat)) []):=by
 refine bJ hT (aE Mq bA) hm afw rfl aV rfl 30 PG (fun _=>?_) K pre
 have h1:bO x<=32:=j5.2 hx
 simp only[ag.all,au]
 refine⟨aa,bU ?_⟩
 rw[bw,wrap_i64 aa aa];omega
theorem RB {n:Nat} {z:Nat->Nat} (hz:∀i,i<n->z i<2^32) (hn:n<2^40) (K:Nat) (pre:aD):aO P 130 K [.aq 1 n (aA z)] pre (aI (.int .i64 (bO (val n z):Nat)) []):=by
 refine bJ hT (aE Mq gU) hm ahg rfl aV rfl 30 Rz (fun _=>?_) K pre
 have hnl:nl (val n z)<=n:=dy.2 (ga hz)
 simp only[ag.all,au,jE,beq_iff_eq,beq_eq_false_iff_ne,ne_eq]
 generalize val n z=N at*
 refine⟨⟨gG hz,aa⟩,fun h=>bU ?_,fun h=>?_⟩
 ·have:N=0:=by
   rcases Nat.eq_zero_or_pos N with h1|h1
   ·exact h1
   ·have:=gA.2 (show N≠0 by omega);omega
  simp[this,bO]
 ·have h0:N≠0:=gA.1 aa
  have hp:=gA.2 h0
  have e:i64.wrap ((nl N:Int)-1)=((nl N-1:Nat):Int):=by rw[wrap_i64 aa aa];omega
  rw[e,bw,bw]
  have hl:=dO (N:=N) (i:=nl N-1)
  have hb:=LJ h0
  have h32:bO (aB N (nl N-1))<=32:=j5.2 hl
  refine⟨⟨aa,aa⟩,bU ?_⟩
  rw[hb,wrap_i64 (x:=32*((nl N-1:Nat):Int)) aa aa,wrap_i64 aa aa]
  omega
def JS:Spec:=bY fun l=>match l with
 |[.int .u32 x]=>some (aI (.int .i64 (32-bO x.toNat:Nat)) [0<=x/\x<2^32])
 |_=>none
theorem aae:aY P JS 173:=by
 refine cJ fun K args r hk hs _=>?_
 split at hs
 ·rename_i x
  simp only[ax]at hs
  subst hs
  intro need
  obtain⟨h1,h2⟩:0<=x/\x<2^32:=need
  obtain⟨y,rfl⟩:=Int.eq_ofNat_of_zero_le h1
  exact Rq (x:=y) aa K [] trivial
 ·simp at hs
def Mk (N n:Nat):dm:=aI (.int .i64 (bO N:Nat)) [n<2^40]
theorem P4:aY P (bY (lW Mk)) 130:=
 cJ (tv fun _ _ K hz need=>RB hz need K [])
end Go.Am.B
