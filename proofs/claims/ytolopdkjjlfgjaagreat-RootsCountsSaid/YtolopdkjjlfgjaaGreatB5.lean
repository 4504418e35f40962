/- bits.Len32, bits.LeadingZeros32, natural.Bits, slices.Clone, slices.Equal. -/
import Derived.Test.YtolopdkjjlfgjaaGreatB4
set_option linter.unusedVariables false
namespace Go.Am.B
open Go Go.Am.N AV Proofs.Tryz IntKind
theorem aba:aZ 162 f162:=bf func162
theorem TX:aZ 184 f184:=bf func184
theorem Ok:aZ 126 f126:=bf func126
abbrev ke:ByteArray:=⟨((List.range 256).map fun i=>UInt8.ofNat (bJ i)).toArray⟩
def A1:Spec:=bR fun l=>match l with
 |[.int .u32 x]=>some (aJ (.int .i64 (bJ x.toNat:Nat)) [0<=x/\x<2^32])
 |_=>none
theorem Wn {x:Nat}:bT T [] [4,8] 30 f162 (aG f162) ⟨aQ 0 [.int .u32 x],[],0⟩=
  some (af.fork (decide ((↑x:Int)>=65536)) (af.aj [(0:Int)<=16] (af.fork (decide ((↑x:Int).fdiv ((2:Int)^min (Int.toNat (16:Int)) u32.bits)>=256)) (af.aj [(0:Int)<=8] (af.aj [(0:Int)<=u8.wrap (((↑x:Int).fdiv ((2:Int)^min (Int.toNat (16:Int)) u32.bits)).fdiv ((2:Int)^min (Int.toNat (8:Int)) u32.bits))/\u8.wrap (((↑x:Int).fdiv ((2:Int)^min (Int.toNat (16:Int)) u32.bits)).fdiv ((2:Int)^min (Int.toNat (8:Int)) u32.bits))<(↑ke.size:Int)] (af.leaf aq.ret [int .i64 (i64.wrap (i64.wrap ((16:Int)+8)+i64.wrap (↑(mE ke (u8.wrap (((↑x:Int).fdiv ((2:Int)^min (Int.toNat (16:Int)) u32.bits)).fdiv ((2:Int)^min (Int.toNat (8:Int)) u32.bits))).toNat):Int)))]))) (af.aj [(0:Int)<=u8.wrap ((↑x:Int).fdiv ((2:Int)^min (Int.toNat (16:Int)) u32.bits))/\u8.wrap ((↑x:Int).fdiv ((2:Int)^min (Int.toNat (16:Int)) u32.bits))<(↑ke.size:Int)] (af.leaf aq.ret [int .i64 (i64.wrap ((16:Int)+i64.wrap (↑(mE ke (u8.wrap ((↑x:Int).fdiv ((2:Int)^min (Int.toNat (16:Int)) u32.bits))).toNat):Int)))])))) (af.fork (decide ((↑x:Int)>=256)) (af.aj [(0:Int)<=8] (af.aj [(0:Int)<=u8.wrap ((↑x:Int).fdiv ((2:Int)^min (Int.toNat (8:Int)) u32.bits))/\u8.wrap ((↑x:Int).fdiv ((2:Int)^min (Int.toNat (8:Int)) u32.bits))<(↑ke.size:Int)] (af.leaf aq.ret [int .i64 (i64.wrap (i64.wrap ((0:Int)+8)+i64.wrap (↑(mE ke (u8.wrap ((↑x:Int).fdiv ((2:Int)^min (Int.toNat (8:Int)) u32.bits))).toNat):Int)))]))) (af.aj [(0:Int)<=u8.wrap (↑x:Int)/\u8.wrap (↑x:Int)<(↑ke.size:Int)] (af.leaf aq.ret [int .i64 (i64.wrap ((0:Int)+i64.wrap (↑(mE ke (u8.wrap (↑x:Int)).toNat):Int)))])))):=ah
theorem xY {i:Nat} (h:i<256):mE ke i=bJ i:=by
 have h8:bJ i<=8:=jh.2 aa
 unfold mE
 have:ke.data[i]?=some (UInt8.ofNat (bJ i)):=by simp[ke,h]
 rw[this]
 simp only[UInt8.toNat_ofNat']
 omega
theorem Re:ke.size=256:=by
 show(List.map _ (List.range 256)).toArray.size=256
 simp
theorem uT {x:Nat} {s:Int} (hs:0<=s) (h:s<32):(x:Int).fdiv (2^min s.toNat u32.bits)=((x/2^s.toNat:Nat):Int):=by
 have:u32.bits=32:=rfl
 rw[this,Nat.min_eq_left aa,Int.fdiv_eq_ediv_of_nonneg _ (by exact Int.le_of_lt (Int.pow_pos (by decide)))]
 simp
theorem yy {x:Nat} (h:x<256):u8.wrap (x:Int)=x:=by
 simp[IntKind.wrap,IntKind.bits,IntKind.signed];omega
theorem Yg {x:Nat} (hx:x<2^32) (K:Nat) (pre:aD):aO P 162 K [.int .u32 x] pre (aJ (.int .i64 (bJ x:Nat)) []):=by
 refine cj hT bY hm aba rfl aX rfl 30 Wn (fun _=>?_) K pre
 have b8:∀i:Nat,i<256->bJ i<=8:=fun i h=>jh.2 aa
 rw[uT (by decide) (by decide),uT (by decide) (by decide),uT (by decide) (by decide)]
 simp only[af.all,az,bz,bB,Re,show Int.toNat 16=16 from rfl,show Int.toNat 8=8 from rfl]
 refine⟨fun h1=>⟨aa,fun h2=>⟨aa,?_⟩,fun h2=>?_⟩,fun h1=>⟨fun h2=>⟨aa,?_⟩,fun h2=>?_⟩⟩
 ·have h3:x/2^16/2^8<256:=aa
  have e:bJ x=16+(8+bJ (x/2^16/2^8)):=by rw[tB (k:=16) aa,tB (x:=x/2^16) (k:=8) aa]
  rw[yy h3]
  refine⟨aa,bN ?_⟩
  rw[bw,xY h3,e]
  have:=b8 _ h3
  rw[wrap_i64 (x:=((bJ (x/2^16/2^8):Nat):Int)) aa aa,wrap_i64 (x:=(16:Int)+8) aa aa,wrap_i64 aa aa]
  omega
 ·have h3:x/2^16<256:=aa
  have e:bJ x=16+bJ (x/2^16):=by rw[tB (k:=16) aa]
  rw[yy h3]
  refine⟨aa,bN ?_⟩
  rw[bw,xY h3,e]
  have:=b8 _ h3
  rw[wrap_i64 (x:=((bJ (x/2^16):Nat):Int)) aa aa,wrap_i64 aa aa]
  omega
 ·have h3:x/2^8<256:=aa
  have e:bJ x=8+bJ (x/2^8):=by rw[tB (k:=8) aa]
  rw[yy h3]
  refine⟨aa,bN ?_⟩
  rw[bw,xY h3,e]
  have:=b8 _ h3
  rw[wrap_i64 (x:=((bJ (x/2^8):Nat):Int)) aa aa,wrap_i64 (x:=(0:Int)+8) aa aa,wrap_i64 aa aa]
  omega
 ·have h3:x<256:=aa
  rw[yy h3]
  refine⟨aa,bN ?_⟩
  rw[bw,xY h3]
  have:=b8 _ h3
  rw[wrap_i64 (x:=((bJ x:Nat):Int)) aa aa,wrap_i64 aa aa]
  omega
theorem Ls:aY P A1 162:=by
 refine cD fun K args r hk hs _=>?_
 split at hs
 ·rename_i x
  simp only[ay]at hs
  subst hs
  intro need
  obtain⟨h1,h2⟩:0<=x/\x<2^32:=need
  obtain⟨y,rfl⟩:=Int.eq_ofNat_of_zero_le h1
  exact Yg (x:=y) aa K [] trivial
 ·simp at hs
theorem OW {x:Nat}:bT T [(162,A1)] [] 30 f184 (aG f184) ⟨aQ 0 [.int .u32 x],[],0⟩=
  some (af.aj [(0:Int)<=(↑x:Int)/\(↑x:Int)<2^32] (af.leaf aq.ret [int .i64 (i64.wrap ((32:Int)-(↑(bJ (↑x:Int).toNat):Int)))])):=ah
theorem Tm {n:Nat} {z:Nat->Nat}:bT T ((162,A1)::G1) [7] 30 f126 (aG f126) ⟨aQ 0 [.ak 1 n (aA z)],[],0⟩=
  some (af.aj [ee n (aA z),n<2^62] (af.fork ((↑(nl (val n fun(i:Nat)=>numOf (aA z i))):Int)==0) (af.leaf aq.ret [int .i64 (0:Int)]) (af.aj [(0:Int)<=i64.wrap ((↑(nl (val n fun(i:Nat)=>numOf (aA z i))):Int)-1)/\(i64.wrap ((↑(nl (val n fun(i:Nat)=>numOf (aA z i))):Int)-1)).toNat<nl (val n fun(i:Nat)=>numOf (aA z i)),(0:Int)<=(↑(aB (val n fun(i:Nat)=>numOf (aA z i)) (i64.wrap ((↑(nl (val n fun(i:Nat)=>numOf (aA z i))):Int)-1)).toNat):Int)/\(↑(aB (val n fun(i:Nat)=>numOf (aA z i)) (i64.wrap ((↑(nl (val n fun(i:Nat)=>numOf (aA z i))):Int)-1)).toNat):Int)<2^32] (af.leaf aq.ret [int .i64 (i64.wrap (i64.wrap ((32:Int)*i64.wrap ((↑(nl (val n fun(i:Nat)=>numOf (aA z i))):Int)-1))+(↑(bJ (↑(aB (val n fun(i:Nat)=>numOf (aA z i)) (i64.wrap ((↑(nl (val n fun(i:Nat)=>numOf (aA z i))):Int)-1)).toNat):Int).toNat):Int)))])))):=ah
theorem Xh {x:Nat} (hx:x<2^32) (K:Nat) (pre:aD):aO P 184 K [.int .u32 x] pre (aJ (.int .i64 (32-bJ x:Nat)) []):=by
 refine cj hT (aI Ls bY) hm TX rfl aX rfl 30 OW (fun _=>?_) K pre
 have h1:bJ x<=32:=jh.2 hx
 simp only[af.all,az]
 refine⟨aa,bN ?_⟩
 rw[bw,wrap_i64 aa aa];omega
theorem NP {n:Nat} {z:Nat->Nat} (hz:∀i,i<n->z i<2^32) (hn:n<2^40) (K:Nat) (pre:aD):aO P 126 K [.ak 1 n (aA z)] pre (aJ (.int .i64 (bJ (val n z):Nat)) []):=by
 refine cj hT (aI Ls gF) hm Ok rfl aX rfl 30 Tm (fun _=>?_) K pre
 have hnl:nl (val n z)<=n:=dI.2 (fR hz)
 simp only[af.all,az,jw,beq_iff_eq,beq_eq_false_iff_ne,ne_eq]
 generalize val n z=N at*
 refine⟨⟨gp hz,aa⟩,fun h=>bN ?_,fun h=>?_⟩
 ·have:N=0:=by
   rcases Nat.eq_zero_or_pos N with h1|h1
   ·exact h1
   ·have:=gr.2 (show N≠0 by omega);omega
  simp[this,bJ]
 ·have h0:N≠0:=gr.1 aa
  have hp:=gr.2 h0
  have e:i64.wrap ((nl N:Int)-1)=((nl N-1:Nat):Int):=by rw[wrap_i64 aa aa];omega
  rw[e,bw,bw]
  have hl:=dP (N:=N) (i:=nl N-1)
  have hb:=KB h0
  have h32:bJ (aB N (nl N-1))<=32:=jh.2 hl
  refine⟨⟨aa,aa⟩,bN ?_⟩
  rw[hb,wrap_i64 (x:=32*((nl N-1:Nat):Int)) aa aa,wrap_i64 aa aa]
  omega
def Ew:Spec:=bR fun l=>match l with
 |[.int .u32 x]=>some (aJ (.int .i64 (32-bJ x.toNat:Nat)) [0<=x/\x<2^32])
 |_=>none
theorem Tv:aY P Ew 184:=by
 refine cD fun K args r hk hs _=>?_
 split at hs
 ·rename_i x
  simp only[ay]at hs
  subst hs
  intro need
  obtain⟨h1,h2⟩:0<=x/\x<2^32:=need
  obtain⟨y,rfl⟩:=Int.eq_ofNat_of_zero_le h1
  exact Xh (x:=y) aa K [] trivial
 ·simp at hs
def KK (N n:Nat):dz:=aJ (.int .i64 (bJ N:Nat)) [n<2^40]
theorem OH:aY P (bR (lC KK)) 126:=
 cD (sL fun _ _ K hz need=>NP hz need K [])
end Go.Am.B
