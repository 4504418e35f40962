/- rational.short and what is near it. -/
import Derived.Test.YtppeigelbecpbaaGreatB15
import Derived.Test.YtppeigelbecpbaaGreatZ2
set_option linter.unusedVariables false
namespace Go.Am.B
open Go Go.Am.N AV
theorem afh:aO P tJ wj (au wj):=aQ abu (by kernel_rfl) (by kernel_rfl) (by kernel_rfl)
theorem aa9:aO P uK zY (au zY):=aQ ak3 (by kernel_rfl) (by kernel_rfl) (by kernel_rfl)
def GS:aR:=[(AX,Kr),(AR,E5)]
theorem adU {b:Bool} {n d:Nat}:bF T GS [13,35] 60 wj (au wj) ⟨aN 0 [.bool b,.int .u64 n,.int .u64 d],[],0⟩=
  let c16:Int:=(↑n:Int);let c14:AV:=mag 0;let c13:AV:=int IntKind.u32 (0:Int);let c12:Nat:=Int.toNat (0:Int);let c7:Prop:=0<1;let c5:Nat:=Int.toNat (4:Int);let c10:Int:=(↑c5:Int);let c8:Nat:=numOf c13;let c4:Int:=(↑(c16.toNat.gcd (↑d:Int).toNat):Int);let c9:Int:=IntKind.u64.wrap (c16.tdiv c4);let c2:Int:=IntKind.u64.wrap ((↑d:Int).tdiv c4);let c1:Nat:=c9.toNat;let c3:Int:=(↑(eP c1):Int);let c15:Prop:=(0:Int)≤c3;let c11:Nat:=0+c3.toNat;let c6:Int:=IntKind.i64.wrap (c3+(↑(eP c2.toNat):Int));some (aa.fork (c16==(0:Int)) (aa.ag [c7] (aa.ag [c7] (aa.leaf aj.ret [agg [AV.bool false,c14,c14]]))) (aa.ag [(0:Int)≤c16,(0:Int)≤(↑d:Int)] (aa.ag [c4≠(0:Int),c4≠(0:Int)] (aa.ag [(0:Int)≤(4:Int)∧(4:Int)≤(4:Int)∧(4:Int)≤(2:Int)^47∧(4:Int)*(↑(4:Nat):Int)≤(2:Int)^47] (aa.ag [dB c5 fun x↦c13,(0:Int)≤c9∧c9<(2:Int)^64,eP c1≤c5,(0:Nat)+c5≤c5] (aa.ag [(0:Int)≤(0:Int)∧c15∧c3≤c3∧c3≤c10,c7] (aa.fork (decide (c2>(1:Int))) (aa.ag [c15∧c3≤c10∧c10≤c10∧c10≤c10,dB c5 (ay (gH (fun i↦c8) 0 c1)),(0:Int)≤c2∧c2<(2:Int)^64,eP c2.toNat≤c10.toNat-c3.toNat,c11+(c10.toNat-c3.toNat)≤c5] (aa.ag [c15∧c3≤c6∧c6≤c6∧c6≤c10,c7] (aa.ag [c7,c7] (aa.ag [c7] (aa.leaf aj.ret [agg [AV.bool b,ak 1 (c3.toNat-c12) fun i↦int IntKind.u32 (↑(gH (fun i↦numOf (ay (gH (fun i↦c8) 0 c1) i)) c11 c2.toNat (i+((0:Nat)+c12))):Int),ak 1 (c6.toNat-c3.toNat) fun i↦int IntKind.u32 (↑(gH (fun i↦numOf (ay (gH (fun i↦c8) 0 c1) i)) c11 c2.toNat (i+c11)):Int)]]))))) (aa.ag [c7,c7] (aa.ag [c7] (aa.leaf aj.ret [agg [AV.bool b,ak 1 (c3.toNat-c12) fun i↦int IntKind.u32 (↑(gH (fun i↦c8) 0 c1 (i+((0:Nat)+c12))):Int),c14]])))))))))):=by kernel_rfl
theorem ajI:bF T [] [] 60 zY (au zY) ⟨[],[],0⟩=
  some (aa.ag [(1:Nat)*1≤2^24] (aa.leaf aj.ret [ak 1 1 fun i↦nth [int IntKind.u32 (1:Int)] (int IntKind.u32 (0:Int)) (i+0)])):=by kernel_rfl
theorem U4:aY P GS:=aG ajy (aG ahs bk)
theorem Gm {x:Nat} (h0:x≠0) (hx:x<2^64):nl x=eP x:=by
 have h1:=fY.2 h0
 have h2:nl x≤2:=cT.2 hx
 unfold eP
 split
 ·have:nl x≤1:=cT.2 (by omega)
  omega
 ·have:¬nl x≤1:=by rw[cT];omega
  omega
theorem Fk {z:Nat→Nat} {s x i:Nat} (hx:x<2^64) (hi:i<eP x):gH z s x (i+s)=az x i:=by
 unfold eP at hi
 unfold gH az
 by_cases h:i=0
 ·subst h;simp
 ·have h1:i=1:=by split at hi<;>omega
  subst h1
  have h2:4294967296≤x:=by split at hi<;>omega
  rw[if_neg (by omega),if_pos ⟨by omega,h2⟩]
  simp only[Nat.mul_one]
  exact(Nat.mod_eq_of_lt (by omega)).symm
theorem aft {z:Nat→Nat} {s x i:Nat} (hi:i<s):gH z s x i=z i:=by
 unfold gH
 rw[if_neg (by omega),if_neg (by omega)]
theorem akC {z:Nat→Nat} {s x n:Nat} (hx:x<2^64) (hz:∀i,i<n→z i<2^32):∀i,i<n→gH z s x i<2^32:=fun i hi=>by
 unfold gH
 have:=hz i hi
 split
 ·omega
 ·split<;>omega
theorem Tc {b:Bool} {n d:Nat} (hn:n<2^64) (hd:d<2^64) (hd0:d≠0) (K:Nat) (pre:aC):aB P tJ K [.bool b,.int .u64 n,.int .u64 d] pre (aK (.rat (sQ b n d) (ct (sQ b n d))) []):=by
 refine bJ hT U4 hm afh rfl (of_decide_eq_true (by kernel_rfl)) rfl 60 adU (fun _=>?_) K pre
 obtain⟨g,hg⟩:∃g,g=Nat.gcd n d:=⟨_,rfl⟩
 simp only[Int.toNat_natCast,←hg,show Int.toNat 4=4 from rfl,Int.toNat_zero,Nat.zero_add,Nat.add_zero,Nat.sub_zero]
 have hg0:0<g:=by rw[hg];exact Nat.gcd_pos_of_pos_right _ (by omega)
 have hgn:g∣n:=by rw[hg];exact Nat.gcd_dvd_left _ _
 have hgd:g∣d:=by rw[hg];exact Nat.gcd_dvd_right _ _
 have hN:n/g<2^64:=Nat.lt_of_le_of_lt (Nat.div_le_self _ _) hn
 have hD:d/g<2^64:=Nat.lt_of_le_of_lt (Nat.div_le_self _ _) hd
 have hD0:0<d/g:=Nat.div_pos (Nat.le_of_dvd (by omega) hgd) hg0
 have hN0:n≠0→0<n/g:=fun h=>Nat.div_pos (Nat.le_of_dvd (by omega) hgn) hg0
 have e1:IntKind.u64.wrap ((n:Int).tdiv (g:Int))=((n/g:Nat):Int):=by
  rw[←Int.ofNat_tdiv,xA,Nat.mod_eq_of_lt hN]
 have e2:IntKind.u64.wrap ((d:Int).tdiv (g:Int))=((d/g:Nat):Int):=by
  rw[←Int.ofNat_tdiv,xA,Nat.mod_eq_of_lt hD]
 rw[e1,e2]
 clear e1 e2
 have f1:n/g=n/Nat.gcd n d:=by rw[hg]
 have f2:d/g=d/Nat.gcd n d:=by rw[hg]
 generalize n/g=N at*
 generalize d/g=D at*
 simp only[Int.toNat_natCast]
 have hnl:∀x,eP x=1∨eP x=2:=fun x=>by unfold eP;split<;>simp
 have l1:=hnl N
 have l2:=hnl D
 have w1:IntKind.i64.wrap ((eP N:Int)+(eP D:Int))=((eP N+eP D:Nat):Int):=by rw[wrap_i64 (by omega) (by omega)];omega
 rw[w1]
 simp only[aa.all,ax,beq_iff_eq,beq_eq_false_iff_ne,ne_eq,decide_eq_true_eq,decide_eq_false_iff_not,Int.toNat_natCast]
 have hsz:Sz (sQ b n d) (ct (sQ b n d)):=zX
 refine⟨fun hb=>⟨by omega,by omega,?_⟩,fun hb=>⟨⟨by omega,by omega⟩,⟨by omega,by omega⟩,by omega,⟨?_,by omega,by omega,by omega⟩,⟨by omega,by omega⟩,fun hc=>⟨⟨by omega,?_,by omega,by omega,by omega⟩,⟨by omega,by omega⟩,⟨by omega,by omega⟩,by omega,?_⟩,fun hc=>⟨⟨by omega,by omega⟩,by omega,?_⟩⟩⟩
 ·have hn0:n=0:=by omega
  have:sQ b n d=0:=by rw[hn0,Hr]
  rw[this]
  exact lR
 ·exact fun i hi=>⟨0,by omega,rfl⟩
 ·refine fR (akC hN fun i hi=>?_)
  simp[numOf]
 ·have hn0:n≠0:=by omega
  have hN0:=hN0 hn0
  refine bB.trans (dn (vs:=[.bool b,.mag N,.mag D]) ⟨.refl _,kG (Gm (by omega) hN) fun i hi=>?_,kG ?_ fun i hi=>?_,trivial⟩) (r7 hn0 hd0 f1 ?_ hsz)
  ·show ay _ _=_
   unfold ay
   rw[aft hi,←Fk (s:=0) (z:=fun i=>numOf (AV.int .u32 0)) hN hi]
   rfl
  ·rw[Gm (by omega) hD];omega
  ·show ay _ _=_
   unfold ay
   rw[Fk hD (by omega)]
  ·rw[←f2,if_neg (by omega)]
 ·have hn0:n≠0:=by omega
  have hN0:=hN0 hn0
  refine bB.trans (dn (vs:=[.bool b,.mag N,.mag 0]) ⟨.refl _,kG (Gm (by omega) hN) fun i hi=>?_,.refl _,trivial⟩) (r7 hn0 hd0 f1 ?_ hsz)
  ·show ay _ _=_
   unfold ay
   rw[←Fk (s:=0) (z:=fun i=>numOf (AV.int .u32 0)) hN hi]
   rfl
  ·rw[←f2,if_pos (by omega)]
def Fs:Spec:=bC fun l=>match l with
 |[.bool b,.int .u64 n,.int .u64 d]=>some (aK (.rat (sQ b n.toNat d.toNat) (ct (sQ b n.toNat d.toNat))) [0≤n∧n<2^64,0<d∧d<2^64])
 |_=>none
theorem L9:∀K args pre r,Fs K args pre=some r→aB P tJ K args pre r:=by
 refine bV fun K args r hk hs _=>?_
 split at hs
 ·rename_i b n d
  simp only[Option.some.injEq]at hs
  subst hs
  intro need
  obtain⟨⟨h1,h2⟩,h3,h4⟩:(0≤n∧n<2^64)∧0<d∧d<2^64:=need
  obtain⟨n,rfl⟩:=Int.eq_ofNat_of_zero_le h1
  obtain⟨d,rfl⟩:=Int.eq_ofNat_of_zero_le (Int.le_of_lt h3)
  exact Tc (by omega) (by omega) (by omega) K [] trivial
 ·simp at hs
theorem aim (K:Nat) (pre:aC):aB P uK K [] pre (aK (.mag 1) []):=by
 refine bJ (T:=T) hT bk hm aa9 rfl (of_decide_eq_true (by kernel_rfl)) rfl 60 ajI (fun _=>?_) K pre
 refine⟨by simp[ax],kG (by decide) fun i hi=>?_⟩
 have:i=0:=by omega
 subst this
 rfl
def ED:Spec:=bC fun l=>match l with
 |[]=>some (aK (.mag 1) [])
 |_=>none
theorem Qu:∀K args pre r,ED K args pre=some r→aB P uK K args pre r:=by
 refine bV fun K args r hk hs _=>?_
 split at hs
 ·simp only[Option.some.injEq]at hs
  subst hs
  exact aim K []
 ·simp at hs
end Go.Am.B
