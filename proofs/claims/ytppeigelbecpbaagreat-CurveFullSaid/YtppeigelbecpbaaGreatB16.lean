/- rational.short and what is near it. -/
import Derived.Test.YtppeigelbecpbaaGreatB15
import Derived.Test.YtppeigelbecpbaaGreatZ2
set_option linter.unusedVariables false
namespace Go.Am.B
open Go Go.Am.N AV
theorem Nv:aN P oJ sN (au sN):=aO X0 (by kernel_rfl) (by kernel_rfl) (by kernel_rfl)
theorem Pe:aN P pV uS (au uS):=aO TM (by kernel_rfl) (by kernel_rfl) (by kernel_rfl)
def GS:aT:=[(tB,CT),(rC,BH)]
theorem V2 {b:Bool} {n d:Nat}:bu T GS [13,35] 60 sN (au sN) ⟨aM 0 [.bool b,.int .u64 n,.int .u64 d],[],0⟩=
  let c16:Int:=(↑n:Int);let c14:AV:=mag 0;let c13:AV:=int IntKind.u32 (0:Int);let c12:Nat:=Int.toNat (0:Int);let c7:Prop:=0<1;let c5:Nat:=Int.toNat (4:Int);let c10:Int:=(↑c5:Int);let c8:Nat:=numOf c13;let c4:Int:=(↑(c16.toNat.gcd (↑d:Int).toNat):Int);let c9:Int:=IntKind.u64.wrap (c16.tdiv c4);let c2:Int:=IntKind.u64.wrap ((↑d:Int).tdiv c4);let c1:Nat:=c9.toNat;let c3:Int:=(↑(dF c1):Int);let c15:Prop:=(0:Int)≤c3;let c11:Nat:=0+c3.toNat;let c6:Int:=IntKind.i64.wrap (c3+(↑(dF c2.toNat):Int));some (aa.fork (c16==(0:Int)) (aa.ag [c7] (aa.ag [c7] (aa.leaf ah.ret [agg [AV.bool false,c14,c14]]))) (aa.ag [(0:Int)≤c16,(0:Int)≤(↑d:Int)] (aa.ag [c4≠(0:Int),c4≠(0:Int)] (aa.ag [(0:Int)≤(4:Int)∧(4:Int)≤(4:Int)∧(4:Int)≤(2:Int)^47∧(4:Int)*(↑(4:Nat):Int)≤(2:Int)^47] (aa.ag [cJ c5 fun x↦c13,(0:Int)≤c9∧c9<(2:Int)^64,dF c1≤c5,(0:Nat)+c5≤c5] (aa.ag [(0:Int)≤(0:Int)∧c15∧c3≤c3∧c3≤c10,c7] (aa.fork (decide (c2>(1:Int))) (aa.ag [c15∧c3≤c10∧c10≤c10∧c10≤c10,cJ c5 (ax (fq (fun i↦c8) 0 c1)),(0:Int)≤c2∧c2<(2:Int)^64,dF c2.toNat≤c10.toNat-c3.toNat,c11+(c10.toNat-c3.toNat)≤c5] (aa.ag [c15∧c3≤c6∧c6≤c6∧c6≤c10,c7] (aa.ag [c7,c7] (aa.ag [c7] (aa.leaf ah.ret [agg [AV.bool b,aq 1 (c3.toNat-c12) fun i↦int IntKind.u32 (↑(fq (fun i↦numOf (ax (fq (fun i↦c8) 0 c1) i)) c11 c2.toNat (i+((0:Nat)+c12))):Int),aq 1 (c6.toNat-c3.toNat) fun i↦int IntKind.u32 (↑(fq (fun i↦numOf (ax (fq (fun i↦c8) 0 c1) i)) c11 c2.toNat (i+c11)):Int)]]))))) (aa.ag [c7,c7] (aa.ag [c7] (aa.leaf ah.ret [agg [AV.bool b,aq 1 (c3.toNat-c12) fun i↦int IntKind.u32 (↑(fq (fun i↦c8) 0 c1 (i+((0:Nat)+c12))):Int),c14]])))))))))):=by kernel_rfl
theorem PT:bu T [] [] 60 uS (au uS) ⟨[],[],0⟩=
  some (aa.ag [(1:Nat)*1≤2^24] (aa.leaf ah.ret [aq 1 1 fun i↦nth [int IntKind.u32 (1:Int)] (int IntKind.u32 (0:Int)) (i+0)])):=by kernel_rfl
theorem YW:bp P GS:=aK K1 (aK ND br)
theorem Bq {x:Nat} (h0:x≠0) (hx:x<2^64):nl x=dF x:=by
 have h1:=eL.2 h0
 have h2:nl x≤2:=cq.2 hx
 unfold dF
 split
 ·have:nl x≤1:=cq.2 (by omega)
  omega
 ·have:¬nl x≤1:=by rw[cq];omega
  omega
theorem Ae {z:Nat→Nat} {s x i:Nat} (hx:x<2^64) (hi:i<dF x):fq z s x (i+s)=ay x i:=by
 unfold dF at hi
 unfold fq ay
 by_cases h:i=0
 ·subst h;simp
 ·have h1:i=1:=by split at hi<;>omega
  subst h1
  have h2:4294967296≤x:=by split at hi<;>omega
  rw[if_neg (by omega),if_pos ⟨by omega,h2⟩]
  simp only[Nat.mul_one]
  exact(Nat.mod_eq_of_lt (by omega)).symm
theorem VO {z:Nat→Nat} {s x i:Nat} (hi:i<s):fq z s x i=z i:=by
 unfold fq
 rw[if_neg (by omega),if_neg (by omega)]
theorem IG {z:Nat→Nat} {s x n:Nat} (hx:x<2^64) (hz:∀i,i<n→z i<2^32):∀i,i<n→fq z s x i<2^32:=fun i hi=>by
 unfold fq
 have:=hz i hi
 split
 ·omega
 ·split<;>omega
theorem M7 {b:Bool} {n d:Nat} (hn:n<2^64) (hd:d<2^64) (hd0:d≠0) (K:Nat) (pre:aA):aB P oJ K [.bool b,.int .u64 n,.int .u64 d] pre (aG (.rat (sQ b n d) (bV (sQ b n d))) []):=by
 refine bE hT YW hm Nv rfl (of_decide_eq_true (by kernel_rfl)) rfl 60 V2 (fun _=>?_) K pre
 obtain⟨g,hg⟩:∃g,g=Nat.gcd n d:=⟨_,rfl⟩
 simp only[Int.toNat_natCast,←hg,show Int.toNat 4=4 from rfl,Int.toNat_zero,Nat.zero_add,Nat.add_zero,Nat.sub_zero]
 have hg0:0<g:=by rw[hg];exact Nat.gcd_pos_of_pos_right _ (by omega)
 have hgn:g∣n:=by rw[hg];exact Nat.gcd_dvd_left _ _
 have hgd:g∣d:=by rw[hg];exact Nat.gcd_dvd_right _ _
 have hN:n/g<2^64:=Nat.lt_of_le_of_lt (Nat.div_le_self _ _) hn
 have hD:d/g<2^64:=Nat.lt_of_le_of_lt (Nat.div_le_self _ _) hd
 have hD0:0<d/g:=Nat.div_pos (Nat.le_of_dvd (by omega) hgd) hg0
 have hN0:n≠0→0<n/g:=fun h=>Nat.div_pos (Nat.le_of_dvd (by omega) hgn) hg0
 have e1:IntKind.u64.wrap ((n:Int).tdiv (g:Int))=((n/g:Nat):Int):=by
  rw[←Int.ofNat_tdiv,tg,Nat.mod_eq_of_lt hN]
 have e2:IntKind.u64.wrap ((d:Int).tdiv (g:Int))=((d/g:Nat):Int):=by
  rw[←Int.ofNat_tdiv,tg,Nat.mod_eq_of_lt hD]
 rw[e1,e2]
 clear e1 e2
 have f1:n/g=n/Nat.gcd n d:=by rw[hg]
 have f2:d/g=d/Nat.gcd n d:=by rw[hg]
 generalize n/g=N at*
 generalize d/g=D at*
 simp only[Int.toNat_natCast]
 have hnl:∀x,dF x=1∨dF x=2:=fun x=>by unfold dF;split<;>simp
 have l1:=hnl N
 have l2:=hnl D
 have w1:IntKind.i64.wrap ((dF N:Int)+(dF D:Int))=((dF N+dF D:Nat):Int):=by rw[wrap_i64 (by omega) (by omega)];omega
 rw[w1]
 simp only[aa.all,az,beq_iff_eq,beq_eq_false_iff_ne,ne_eq,decide_eq_true_eq,decide_eq_false_iff_not,Int.toNat_natCast]
 have hsz:Sz (sQ b n d) (bV (sQ b n d)):=qL
 refine⟨fun hb=>⟨by omega,by omega,?_⟩,fun hb=>⟨⟨by omega,by omega⟩,⟨by omega,by omega⟩,by omega,⟨?_,by omega,by omega,by omega⟩,⟨by omega,by omega⟩,fun hc=>⟨⟨by omega,?_,by omega,by omega,by omega⟩,⟨by omega,by omega⟩,⟨by omega,by omega⟩,by omega,?_⟩,fun hc=>⟨⟨by omega,by omega⟩,by omega,?_⟩⟩⟩
 ·have hn0:n=0:=by omega
  have:sQ b n d=0:=by rw[hn0,AJ]
  rw[this]
  exact jH
 ·exact fun i hi=>⟨0,by omega,rfl⟩
 ·refine eA (IG hN fun i hi=>?_)
  simp[numOf]
 ·have hn0:n≠0:=by omega
  have hN0:=hN0 hn0
  refine bt.trans (dJ (vs:=[.bool b,.mag N,.mag D]) ⟨.refl _,iQ (Bq (by omega) hN) fun i hi=>?_,iQ ?_ fun i hi=>?_,trivial⟩) (pT hn0 hd0 f1 ?_ hsz)
  ·show ax _ _=_
   unfold ax
   rw[VO hi,←Ae (s:=0) (z:=fun i=>numOf (AV.int .u32 0)) hN hi]
   rfl
  ·rw[Bq (by omega) hD];omega
  ·show ax _ _=_
   unfold ax
   rw[Ae hD (by omega)]
  ·rw[←f2,if_neg (by omega)]
 ·have hn0:n≠0:=by omega
  have hN0:=hN0 hn0
  refine bt.trans (dJ (vs:=[.bool b,.mag N,.mag 0]) ⟨.refl _,iQ (Bq (by omega) hN) fun i hi=>?_,.refl _,trivial⟩) (pT hn0 hd0 f1 ?_ hsz)
  ·show ax _ _=_
   unfold ax
   rw[←Ae (s:=0) (z:=fun i=>numOf (AV.int .u32 0)) hN hi]
   rfl
  ·rw[←f2,if_pos (by omega)]
def y5:Spec:=bq fun l=>match l with
 |[.bool b,.int .u64 n,.int .u64 d]=>some (aG (.rat (sQ b n.toNat d.toNat) (bV (sQ b n.toNat d.toNat))) [0≤n∧n<2^64,0<d∧d<2^64])
 |_=>none
theorem G7:∀K args pre r,y5 K args pre=some r→aB P oJ K args pre r:=by
 refine bL fun K args r hk hs _=>?_
 split at hs
 ·rename_i b n d
  simp only[Option.some.injEq]at hs
  subst hs
  intro need
  obtain⟨⟨h1,h2⟩,h3,h4⟩:(0≤n∧n<2^64)∧0<d∧d<2^64:=need
  obtain⟨n,rfl⟩:=Int.eq_ofNat_of_zero_le h1
  obtain⟨d,rfl⟩:=Int.eq_ofNat_of_zero_le (Int.le_of_lt h3)
  exact M7 (by omega) (by omega) (by omega) K [] trivial
 ·simp at hs
theorem XD (K:Nat) (pre:aA):aB P pV K [] pre (aG (.mag 1) []):=by
 refine bE (T:=T) hT br hm Pe rfl (of_decide_eq_true (by kernel_rfl)) rfl 60 PT (fun _=>?_) K pre
 refine⟨by simp[az],iQ (by decide) fun i hi=>?_⟩
 have:i=0:=by omega
 subst this
 rfl
def Bf:Spec:=bq fun l=>match l with
 |[]=>some (aG (.mag 1) [])
 |_=>none
theorem Iu:∀K args pre r,Bf K args pre=some r→aB P pV K args pre r:=by
 refine bL fun K args r hk hs _=>?_
 split at hs
 ·simp only[Option.some.injEq]at hs
  subst hs
  exact XD K []
 ·simp at hs
end Go.Am.B
