/- rational. -/
import Derived.Test.YtppeigelbecpbaaGreatB15
import Derived.Test.YtppeigelbecpbaaGreatZ2
set_option linter.unusedVariables false
namespace Go.Am.B
open Go Go.Am.N AV
theorem agi:aT P yu Ej (aA Ej):=aY Proofs.Tryz.func193 ag ag ag
theorem agk:aT P yU DP (aA DP):=aY Proofs.Tryz.func225 ag ag ag
def GS:bg:=[(Cr,PG),(DI,IF)]
theorem Vu {b:Bool} {n d:Nat}:bW T GS [13,35] 60 Ej (aA Ej) ⟨aQ 0 [.bool b,.int .u64 n,.int .u64 d],[],0⟩=
  let c16:Int:=(↑n:Int);let c14:AV:=mag 0;let c13:AV:=int IntKind.u32 (0:Int);let c12:Nat:=Int.toNat (0:Int);let c7:Prop:=0<1;let c5:Nat:=Int.toNat (4:Int);let c10:Int:=(↑c5:Int);let c8:Nat:=numOf c13;let c4:Int:=(↑(c16.toNat.gcd (↑d:Int).toNat):Int);let c9:Int:=IntKind.u64.wrap (c16.tdiv c4);let c2:Int:=IntKind.u64.wrap ((↑d:Int).tdiv c4);let c1:Nat:=c9.toNat;let c3:Int:=(↑(fD c1):Int);let c15:Prop:=(0:Int)<=c3;let c11:Nat:=0+c3.toNat;let c6:Int:=IntKind.i64.wrap (c3+(↑(fD c2.toNat):Int));some (ah.fork (c16==(0:Int)) (ah.aj [c7] (ah.aj [c7] (ah.leaf au.ret [agg [AV.bool false,c14,c14]]))) (ah.aj [(0:Int)<=c16,(0:Int)<=(↑d:Int)] (ah.aj [c4≠(0:Int),c4≠(0:Int)] (ah.aj [(0:Int)<=(4:Int)/\(4:Int)<=(4:Int)/\(4:Int)<=(2:Int)^47/\(4:Int)*(↑(4:Nat):Int)<=(2:Int)^47] (ah.aj [dQ c5 fun x=>c13,(0:Int)<=c9/\c9<(2:Int)^64,fD c1<=c5,(0:Nat)+c5<=c5] (ah.aj [(0:Int)<=(0:Int)/\c15/\c3<=c3/\c3<=c10,c7] (ah.fork (decide (c2>(1:Int))) (ah.aj [c15/\c3<=c10/\c10<=c10/\c10<=c10,dQ c5 (aD (gZ (fun i=>c8) 0 c1)),(0:Int)<=c2/\c2<(2:Int)^64,fD c2.toNat<=c10.toNat-c3.toNat,c11+(c10.toNat-c3.toNat)<=c5] (ah.aj [c15/\c3<=c6/\c6<=c6/\c6<=c10,c7] (ah.aj [c7,c7] (ah.aj [c7] (ah.leaf au.ret [agg [AV.bool b,aq 1 (c3.toNat-c12) fun i=>int IntKind.u32 (↑(gZ (fun i=>numOf (aD (gZ (fun i=>c8) 0 c1) i)) c11 c2.toNat (i+((0:Nat)+c12))):Int),aq 1 (c6.toNat-c3.toNat) fun i=>int IntKind.u32 (↑(gZ (fun i=>numOf (aD (gZ (fun i=>c8) 0 c1) i)) c11 c2.toNat (i+c11)):Int)]]))))) (ah.aj [c7,c7] (ah.aj [c7] (ah.leaf au.ret [agg [AV.bool b,aq 1 (c3.toNat-c12) fun i=>int IntKind.u32 (↑(gZ (fun i=>c8) 0 c1 (i+((0:Nat)+c12))):Int),c14]])))))))))):=ag
theorem VE:bW T [] [] 60 DP (aA DP) ⟨[],[],0⟩=
  some (ah.aj [(1:Nat)*1<=2^24] (ah.leaf au.ret [aq 1 1 fun i=>nth [int IntKind.u32 (1:Int)] (int IntKind.u32 (0:Int)) (i+0)])):=ag
theorem ae0:bz P GS:=aL ag8 (aL Xn bO)
theorem Lm {x:Nat} (h0:x≠0) (hx:x<2^64):nl x=fD x:=by
 have h1:=gn.2 h0
 have h2:nl x<=2:=dz.2 hx
 unfold fD
 split
 ·have:nl x<=1:=dz.2 aa
  omega
 ·have:¬nl x<=1:=by rw[dz];omega
  omega
theorem Kf {z:Nat->Nat} {s x i:Nat} (hx:x<2^64) (hi:i<fD x):gZ z s x (i+s)=aG x i:=by
 unfold fD at hi
 unfold gZ aG
 by_cases h:i=0
 ·subst h;simp
 ·have h1:i=1:=by split at hi<;>omega
  subst h1
  have h2:4294967296<=x:=by split at hi<;>omega
  rw[if_neg aa,if_pos ⟨aa,h2⟩]
  simp only[Nat.mul_one]
  exact(Nat.mod_eq_of_lt aa).symm
theorem ade {z:Nat->Nat} {s x i:Nat} (hi:i<s):gZ z s x i=z i:=by
 unfold gZ
 rw[if_neg aa,if_neg aa]
theorem We {z:Nat->Nat} {s x n:Nat} (hx:x<2^64) (hz:∀i,i<n->z i<2^32):∀i,i<n->gZ z s x i<2^32:=fun i hi=>by
 unfold gZ
 have:=hz i hi
 split
 ·omega
 ·split<;>omega
theorem alk {b:Bool} {n d:Nat} (hn:n<2^64) (hd:d<2^64) (hd0:d≠0) (K:Nat) (pre:aF):aE P yu K [.bool b,.int .u64 n,.int .u64 d] pre (aK (.rat (sQ b n d) (cS (sQ b n d))) []):=by
 refine cj hT ae0 hm agi rfl aX rfl 60 Vu (fun _=>?_) K pre
 obtain⟨g,hg⟩:∃g,g=Nat.gcd n d:=⟨_,rfl⟩
 simp only[aW,<-hg,show Int.toNat 4=4 from rfl,Int.toNat_zero,Nat.zero_add,Nat.add_zero,Nat.sub_zero]
 have hg0:0<g:=by rw[hg];exact Nat.gcd_pos_of_pos_right _ aa
 have hgn:g∣n:=by rw[hg];exact Nat.gcd_dvd_left _ _
 have hgd:g∣d:=by rw[hg];exact Nat.gcd_dvd_right _ _
 have hN:n/g<2^64:=Nat.lt_of_le_of_lt (Nat.div_le_self _ _) hn
 have hD:d/g<2^64:=Nat.lt_of_le_of_lt (Nat.div_le_self _ _) hd
 have hD0:0<d/g:=Nat.div_pos (Nat.le_of_dvd aa hgd) hg0
 have hN0:n≠0->0<n/g:=fun h=>Nat.div_pos (Nat.le_of_dvd aa hgn) hg0
 have e1:IntKind.u64.wrap ((n:Int).tdiv (g:Int))=((n/g:Nat):Int):=by
  rw[<-Int.ofNat_tdiv,AU,Nat.mod_eq_of_lt hN]
 have e2:IntKind.u64.wrap ((d:Int).tdiv (g:Int))=((d/g:Nat):Int):=by
  rw[<-Int.ofNat_tdiv,AU,Nat.mod_eq_of_lt hD]
 rw[e1,e2]
 clear e1 e2
 have f1:n/g=n/Nat.gcd n d:=by rw[hg]
 have f2:d/g=d/Nat.gcd n d:=by rw[hg]
 generalize n/g=N at*
 generalize d/g=D at*
 simp only[aW]
 have hnl:∀x,fD x=1\/fD x=2:=fun x=>by unfold fD;split<;>simp
 have l1:=hnl N
 have l2:=hnl D
 have w1:IntKind.i64.wrap ((fD N:Int)+(fD D:Int))=((fD N+fD D:Nat):Int):=by rw[wrap_i64 aa aa];omega
 rw[w1]
 simp only[ah.all,az,beq_iff_eq,beq_eq_false_iff_ne,ne_eq,aZ,bk,aW]
 have hsz:Sz (sQ b n d) (cS (sQ b n d)):=xQ
 refine⟨fun hb=>⟨aa,aa,?_⟩,fun hb=>⟨⟨aa,aa⟩,⟨aa,aa⟩,aa,⟨?_,aa,aa,aa⟩,⟨aa,aa⟩,fun hc=>⟨⟨aa,?_,aa,aa,aa⟩,⟨aa,aa⟩,⟨aa,aa⟩,aa,?_⟩,fun hc=>⟨⟨aa,aa⟩,aa,?_⟩⟩⟩
 ·have hn0:n=0:=aa
  have:sQ b n d=0:=by rw[hn0,GW]
  rw[this]
  exact lT
 ·exact fun i hi=>⟨0,aa,rfl⟩
 ·refine gd (We hN fun i hi=>?_)
  simp[numOf]
 ·have hn0:n≠0:=aa
  have hN0:=hN0 hn0
  refine bG.trans (cC (vs:=[.bool b,.mag N,.mag D]) ⟨.refl _,lO (Lm aa hN) fun i hi=>?_,lO ?_ fun i hi=>?_,trivial⟩) (v8 hn0 hd0 f1 ?_ hsz)
  ·show aD _ _=_
   unfold aD
   rw[ade hi,<-Kf (s:=0) (z:=fun i=>numOf (AV.int .u32 0)) hN hi]
   rfl
  ·rw[Lm aa hD];omega
  ·show aD _ _=_
   unfold aD
   rw[Kf hD aa]
  ·rw[<-f2,if_neg aa]
 ·have hn0:n≠0:=aa
  have hN0:=hN0 hn0
  refine bG.trans (cC (vs:=[.bool b,.mag N,.mag 0]) ⟨.refl _,lO (Lm aa hN) fun i hi=>?_,.refl _,trivial⟩) (v8 hn0 hd0 f1 ?_ hsz)
  ·show aD _ _=_
   unfold aD
   rw[<-Kf (s:=0) (z:=fun i=>numOf (AV.int .u32 0)) hN hi]
   rfl
  ·rw[<-f2,if_pos aa]
def HS:Spec:=bX fun l=>match l with
 |[.bool b,.int .u64 n,.int .u64 d]=>some (aK (.rat (sQ b n.toNat d.toNat) (cS (sQ b n.toNat d.toNat))) [0<=n/\n<2^64,0<d/\d<2^64])
 |_=>none
theorem QY:∀K args pre r,HS K args pre=some r->aE P yu K args pre r:=by
 refine cK fun K args r hk hs _=>?_
 split at hs
 ·rename_i b n d
  simp only[ay]at hs
  subst hs
  intro need
  obtain⟨⟨h1,h2⟩,h3,h4⟩:(0<=n/\n<2^64)/\0<d/\d<2^64:=need
  obtain⟨n,rfl⟩:=Int.eq_ofNat_of_zero_le h1
  obtain⟨d,rfl⟩:=Int.eq_ofNat_of_zero_le (Int.le_of_lt h3)
  exact alk aa aa aa K [] trivial
 ·simp at hs
theorem akB (K:Nat) (pre:aF):aE P yU K [] pre (aK (.mag 1) []):=by
 refine cj (T:=T) hT bO hm agk rfl aX rfl 60 VE (fun _=>?_) K pre
 refine⟨by simp[az],lO (by decide) fun i hi=>?_⟩
 have:i=0:=aa
 subst this
 rfl
def Jc:Spec:=bX fun l=>match l with
 |[]=>some (aK (.mag 1) [])
 |_=>none
theorem PU:∀K args pre r,Jc K args pre=some r->aE P yU K args pre r:=by
 refine cK fun K args r hk hs _=>?_
 split at hs
 ·simp only[ay]at hs
  subst hs
  exact akB K []
 ·simp at hs
end Go.Am.B
