/- bits.Len32, bits.LeadingZeros32, natural.Bits, slices.Clone, slices.Equal. -/
import Derived.Test.YtolopdkjjlfgjaaGreatB4
set_option linter.unusedVariables false
namespace Go.Am.B
open Go Go.Am.N AV Proofs.Tryz IntKind
theorem Ok:aX 162 f162:=aY func162
theorem Zt:aX 184 f184:=aY func184
theorem SY:aX 126 f126:=aY func126
abbrev k7:ByteArray:=⟨((List.range 256).map fun i=>UInt8.ofNat (bI i)).toArray⟩
def BF:Spec:=bR fun l=>match l with
 |[.int .u32 x]=>some (aJ (.int .i64 (bI x.toNat:Nat)) [0<=x/\x<2^32])
 |_=>none
theorem Vz {x:Nat}:bT T [] [4,8] 30 f162 (aG f162) ⟨aS 0 [.int .u32 x],[],0⟩=
  some (af.fork (decide ((↑x:Int)>=65536)) (af.aj [(0:Int)<=16] (af.fork (decide ((↑x:Int).fdiv ((2:Int)^min (Int.toNat (16:Int)) u32.bits)>=256)) (af.aj [(0:Int)<=8] (af.aj [(0:Int)<=u8.wrap (((↑x:Int).fdiv ((2:Int)^min (Int.toNat (16:Int)) u32.bits)).fdiv ((2:Int)^min (Int.toNat (8:Int)) u32.bits))/\u8.wrap (((↑x:Int).fdiv ((2:Int)^min (Int.toNat (16:Int)) u32.bits)).fdiv ((2:Int)^min (Int.toNat (8:Int)) u32.bits))<(↑k7.size:Int)] (af.leaf aq.ret [int .i64 (i64.wrap (i64.wrap ((16:Int)+8)+i64.wrap (↑(nk k7 (u8.wrap (((↑x:Int).fdiv ((2:Int)^min (Int.toNat (16:Int)) u32.bits)).fdiv ((2:Int)^min (Int.toNat (8:Int)) u32.bits))).toNat):Int)))]))) (af.aj [(0:Int)<=u8.wrap ((↑x:Int).fdiv ((2:Int)^min (Int.toNat (16:Int)) u32.bits))/\u8.wrap ((↑x:Int).fdiv ((2:Int)^min (Int.toNat (16:Int)) u32.bits))<(↑k7.size:Int)] (af.leaf aq.ret [int .i64 (i64.wrap ((16:Int)+i64.wrap (↑(nk k7 (u8.wrap ((↑x:Int).fdiv ((2:Int)^min (Int.toNat (16:Int)) u32.bits))).toNat):Int)))])))) (af.fork (decide ((↑x:Int)>=256)) (af.aj [(0:Int)<=8] (af.aj [(0:Int)<=u8.wrap ((↑x:Int).fdiv ((2:Int)^min (Int.toNat (8:Int)) u32.bits))/\u8.wrap ((↑x:Int).fdiv ((2:Int)^min (Int.toNat (8:Int)) u32.bits))<(↑k7.size:Int)] (af.leaf aq.ret [int .i64 (i64.wrap (i64.wrap ((0:Int)+8)+i64.wrap (↑(nk k7 (u8.wrap ((↑x:Int).fdiv ((2:Int)^min (Int.toNat (8:Int)) u32.bits))).toNat):Int)))]))) (af.aj [(0:Int)<=u8.wrap (↑x:Int)/\u8.wrap (↑x:Int)<(↑k7.size:Int)] (af.leaf aq.ret [int .i64 (i64.wrap ((0:Int)+i64.wrap (↑(nk k7 (u8.wrap (↑x:Int)).toNat):Int)))])))):=ag
theorem xU {i:Nat} (h:i<256):nk k7 i=bI i:=by
 have h8:bI i<=8:=jW.2 aa
 unfold nk
 have:k7.data[i]?=some (UInt8.ofNat (bI i)):=by simp[k7,h]
 rw[this]
 simp only[UInt8.toNat_ofNat']
 omega
theorem aa4:k7.size=256:=by
 show(List.map _ (List.range 256)).toArray.size=256
 simp
theorem vv {x:Nat} {s:Int} (hs:0<=s) (h:s<32):(x:Int).fdiv (2^min s.toNat u32.bits)=((x/2^s.toNat:Nat):Int):=by
 have:u32.bits=32:=rfl
 rw[this,Nat.min_eq_left aa,Int.fdiv_eq_ediv_of_nonneg _ (by exact Int.le_of_lt (Int.pow_pos (by decide)))]
 simp
theorem yU {x:Nat} (h:x<256):u8.wrap (x:Int)=x:=by
 simp[IntKind.wrap,IntKind.bits,IntKind.signed];omega
theorem Nt {x:Nat} (hx:x<2^32) (K:Nat) (pre:aE):aO P 162 K [.int .u32 x] pre (aJ (.int .i64 (bI x:Nat)) []):=by
 refine bW hT bU hm Ok rfl aW rfl 30 Vz (fun _=>?_) K pre
 have b8:∀i:Nat,i<256->bI i<=8:=fun i h=>jW.2 aa
 rw[vv (by decide) (by decide),vv (by decide) (by decide),vv (by decide) (by decide)]
 simp only[af.all,az,bz,bE,aa4,show Int.toNat 16=16 from rfl,show Int.toNat 8=8 from rfl]
 refine⟨fun h1=>⟨aa,fun h2=>⟨aa,?_⟩,fun h2=>?_⟩,fun h1=>⟨fun h2=>⟨aa,?_⟩,fun h2=>?_⟩⟩
 ·have h3:x/2^16/2^8<256:=aa
  have e:bI x=16+(8+bI (x/2^16/2^8)):=by rw[sP (k:=16) aa,sP (x:=x/2^16) (k:=8) aa]
  rw[yU h3]
  refine⟨aa,bQ ?_⟩
  rw[bu,xU h3,e]
  have:=b8 _ h3
  rw[wrap_i64 (x:=((bI (x/2^16/2^8):Nat):Int)) aa aa,wrap_i64 (x:=(16:Int)+8) aa aa,wrap_i64 aa aa]
  omega
 ·have h3:x/2^16<256:=aa
  have e:bI x=16+bI (x/2^16):=by rw[sP (k:=16) aa]
  rw[yU h3]
  refine⟨aa,bQ ?_⟩
  rw[bu,xU h3,e]
  have:=b8 _ h3
  rw[wrap_i64 (x:=((bI (x/2^16):Nat):Int)) aa aa,wrap_i64 aa aa]
  omega
 ·have h3:x/2^8<256:=aa
  have e:bI x=8+bI (x/2^8):=by rw[sP (k:=8) aa]
  rw[yU h3]
  refine⟨aa,bQ ?_⟩
  rw[bu,xU h3,e]
  have:=b8 _ h3
  rw[wrap_i64 (x:=((bI (x/2^8):Nat):Int)) aa aa,wrap_i64 (x:=(0:Int)+8) aa aa,wrap_i64 aa aa]
  omega
 ·have h3:x<256:=aa
  rw[yU h3]
  refine⟨aa,bQ ?_⟩
  rw[bu,xU h3]
  have:=b8 _ h3
  rw[wrap_i64 (x:=((bI x:Nat):Int)) aa aa,wrap_i64 aa aa]
  omega
theorem G7:bf P BF 162:=by
 refine cE fun K args r hk hs _=>?_
 split at hs
 ·rename_i x
  simp only[ax]at hs
  subst hs
  intro need
  obtain⟨h1,h2⟩:0<=x/\x<2^32:=need
  obtain⟨y,rfl⟩:=Int.eq_ofNat_of_zero_le h1
  exact Nt (x:=y) aa K [] trivial
 ·simp at hs
theorem Vx {x:Nat}:bT T [(162,BF)] [] 30 f184 (aG f184) ⟨aS 0 [.int .u32 x],[],0⟩=
  some (af.aj [(0:Int)<=(↑x:Int)/\(↑x:Int)<2^32] (af.leaf aq.ret [int .i64 (i64.wrap ((32:Int)-(↑(bI (↑x:Int).toNat):Int)))])):=ag
theorem TD {n:Nat} {z:Nat->Nat}:bT T ((162,BF)::G1) [7] 30 f126 (aG f126) ⟨aS 0 [.ak 1 n (aA z)],[],0⟩=
  some (af.aj [ew n (aA z),n<2^62] (af.fork ((↑(nl (val n fun(i:Nat)=>numOf (aA z i))):Int)==0) (af.leaf aq.ret [int .i64 (0:Int)]) (af.aj [(0:Int)<=i64.wrap ((↑(nl (val n fun(i:Nat)=>numOf (aA z i))):Int)-1)/\(i64.wrap ((↑(nl (val n fun(i:Nat)=>numOf (aA z i))):Int)-1)).toNat<nl (val n fun(i:Nat)=>numOf (aA z i)),(0:Int)<=(↑(aB (val n fun(i:Nat)=>numOf (aA z i)) (i64.wrap ((↑(nl (val n fun(i:Nat)=>numOf (aA z i))):Int)-1)).toNat):Int)/\(↑(aB (val n fun(i:Nat)=>numOf (aA z i)) (i64.wrap ((↑(nl (val n fun(i:Nat)=>numOf (aA z i))):Int)-1)).toNat):Int)<2^32] (af.leaf aq.ret [int .i64 (i64.wrap (i64.wrap ((32:Int)*i64.wrap ((↑(nl (val n fun(i:Nat)=>numOf (aA z i))):Int)-1))+(↑(bI (↑(aB (val n fun(i:Nat)=>numOf (aA z i)) (i64.wrap ((↑(nl (val n fun(i:Nat)=>numOf (aA z i))):Int)-1)).toNat):Int).toNat):Int)))])))):=ag
theorem aci {x:Nat} (hx:x<2^32) (K:Nat) (pre:aE):aO P 184 K [.int .u32 x] pre (aJ (.int .i64 (32-bI x:Nat)) []):=by
 refine bW hT (aK G7 bU) hm Zt rfl aW rfl 30 Vx (fun _=>?_) K pre
 have h1:bI x<=32:=jW.2 hx
 simp only[af.all,az]
 refine⟨aa,bQ ?_⟩
 rw[bu,wrap_i64 aa aa];omega
theorem WS {n:Nat} {z:Nat->Nat} (hz:∀i,i<n->z i<2^32) (hn:n<2^40) (K:Nat) (pre:aE):aO P 126 K [.ak 1 n (aA z)] pre (aJ (.int .i64 (bI (val n z):Nat)) []):=by
 refine bW hT (aK G7 gR) hm SY rfl aW rfl 30 TD (fun _=>?_) K pre
 have hnl:nl (val n z)<=n:=dB.2 (fY hz)
 simp only[af.all,az,jO,beq_iff_eq,beq_eq_false_iff_ne,ne_eq]
 generalize val n z=N at*
 refine⟨⟨gv hz,aa⟩,fun h=>bQ ?_,fun h=>?_⟩
 ·have:N=0:=by
   rcases Nat.eq_zero_or_pos N with h1|h1
   ·exact h1
   ·have:=gI.2 (show N≠0 by omega);omega
  simp[this,bI]
 ·have h0:N≠0:=gI.1 aa
  have hp:=gI.2 h0
  have e:i64.wrap ((nl N:Int)-1)=((nl N-1:Nat):Int):=by rw[wrap_i64 aa aa];omega
  rw[e,bu,bu]
  have hl:=dS (N:=N) (i:=nl N-1)
  have hb:=Fx h0
  have h32:bI (aB N (nl N-1))<=32:=jW.2 hl
  refine⟨⟨aa,aa⟩,bQ ?_⟩
  rw[hb,wrap_i64 (x:=32*((nl N-1:Nat):Int)) aa aa,wrap_i64 aa aa]
  omega
def GX:Spec:=bR fun l=>match l with
 |[.int .u32 x]=>some (aJ (.int .i64 (32-bI x.toNat:Nat)) [0<=x/\x<2^32])
 |_=>none
theorem aag:bf P GX 184:=by
 refine cE fun K args r hk hs _=>?_
 split at hs
 ·rename_i x
  simp only[ax]at hs
  subst hs
  intro need
  obtain⟨h1,h2⟩:0<=x/\x<2^32:=need
  obtain⟨y,rfl⟩:=Int.eq_ofNat_of_zero_le h1
  exact aci (x:=y) aa K [] trivial
 ·simp at hs
def Kc (N n:Nat):dr:=aJ (.int .i64 (bI N:Nat)) [n<2^40]
theorem X6:bf P (bR (mo Kc)) 126:=
 cE (sM fun _ _ K hz need=>WS hz need K [])
end Go.Am.B
