/- rational.short and what is near it. -/
import Derived.Test.YtnniljlepppdpaaGreatB15
import Derived.Test.YtnniljlepppdpaaGreatZ2
set_option linter.unusedVariables false
namespace Go.Am.B
open Go Go.Am.N AV
theorem aix:aT P AZ Dz (ay Dz):=aU Proofs.Tryz.func214 ag ag ag
theorem aoU:aT P AU El (ay El):=aU Proofs.Tryz.func259 ag ag ag
def GS:bf:=[(CF,Od),(Ex,KO)]
theorem aiA {b:Bool} {n d:Nat}:bU T GS [13,35] 60 Dz (ay Dz) ⟨aP 0 [.bool b,.int .u64 n,.int .u64 d],[],0⟩=
  let c16:Int:=(↑n:Int);let c14:AV:=mag 0;let c13:AV:=int .u32 (0:Int);let c12:Nat:=Int.toNat (0:Int);let c7:Prop:=0<1;let c5:Nat:=Int.toNat (4:Int);let c10:Int:=(↑c5:Int);let c8:Nat:=numOf c13;let c4:Int:=(↑(c16.toNat.gcd (↑d:Int).toNat):Int);let c9:Int:=IntKind.u64.wrap (c16.tdiv c4);let c2:Int:=IntKind.u64.wrap ((↑d:Int).tdiv c4);let c1:Nat:=c9.toNat;let c3:Int:=(↑(fL c1):Int);let c15:Prop:=(0:Int)<=c3;let c11:Nat:=0+c3.toNat;let c6:Int:=IntKind.i64.wrap (c3+(↑(fL c2.toNat):Int));some (ah.fork (c16==0) (ah.aj [c7] (ah.aj [c7] (ah.leaf ax.ret [agg [AV.bool false,c14,c14]]))) (ah.aj [(0:Int)<=c16,(0:Int)<=(↑d:Int)] (ah.aj [c4≠(0:Int),c4≠(0:Int)] (ah.aj [(0:Int)<=4/\(4:Int)<=4/\(4:Int)<=2^47/\(4:Int)*(↑(4:Nat):Int)<=2^47] (ah.aj [ek c5 fun x=>c13,(0:Int)<=c9/\c9<2^64,fL c1<=c5,(0:Nat)+c5<=c5] (ah.aj [(0:Int)<=0/\c15/\c3<=c3/\c3<=c10,c7] (ah.fork (decide (c2>1)) (ah.aj [c15/\c3<=c10/\c10<=c10/\c10<=c10,ek c5 (aD (iD (fun i=>c8) 0 c1)),(0:Int)<=c2/\c2<2^64,fL c2.toNat<=c10.toNat-c3.toNat,c11+(c10.toNat-c3.toNat)<=c5] (ah.aj [c15/\c3<=c6/\c6<=c6/\c6<=c10,c7] (ah.aj [c7,c7] (ah.aj [c7] (ah.leaf ax.ret [agg [AV.bool b,aq 1 (c3.toNat-c12) fun i=>int .u32 (↑(iD (fun i=>numOf (aD (iD (fun i=>c8) 0 c1) i)) c11 c2.toNat (i+((0:Nat)+c12))):Int),aq 1 (c6.toNat-c3.toNat) fun i=>int .u32 (↑(iD (fun i=>numOf (aD (iD (fun i=>c8) 0 c1) i)) c11 c2.toNat (i+c11)):Int)]]))))) (ah.aj [c7,c7] (ah.aj [c7] (ah.leaf ax.ret [agg [AV.bool b,aq 1 (c3.toNat-c12) fun i=>int .u32 (↑(iD (fun i=>c8) 0 c1 (i+((0:Nat)+c12))):Int),c14]])))))))))):=ag
theorem ahQ:bU T [] [] 60 El (ay El) ⟨[],[],0⟩=
  some (ah.aj [(1:Nat)*1<=2^24] (ah.leaf ax.ret [aq 1 1 fun i=>nth [int .u32 (1:Int)] (int .u32 (0:Int)) (i+0)])):=ag
theorem afb:bu P GS:=aI ae9 (aI anW bz)
theorem Jk {x:Nat} (h0:x≠0) (hx:x<2^64):nl x=fL x:=by
 have h1:=gJ.2 h0
 have h2:nl x<=2:=dF.2 hx
 unfold fL
 split
 ·have:nl x<=1:=dF.2 aa
  omega
 ·have:¬nl x<=1:=by rw[dF];omega
  omega
theorem K3 {z:Nat->Nat} {s x i:Nat} (hx:x<2^64) (hi:i<fL x):iD z s x (i+s)=aF x i:=by
 unfold fL at hi
 unfold iD aF
 by_cases h:i=0
 ·subst h;simp
 ·have h1:i=1:=by split at hi<;>omega
  subst h1
  have h2:4294967296<=x:=by split at hi<;>omega
  rw[if_neg aa,if_pos ⟨aa,h2⟩]
  simp only[Nat.mul_one]
  exact(Nat.mod_eq_of_lt aa).symm
theorem agW {z:Nat->Nat} {s x i:Nat} (hi:i<s):iD z s x i=z i:=by
 unfold iD
 rw[if_neg aa,if_neg aa]
theorem afC {z:Nat->Nat} {s x n:Nat} (hx:x<2^64) (hz:∀i,i<n->z i<2^32):∀i,i<n->iD z s x i<2^32:=fun i hi=>by
 unfold iD
 have:=hz i hi
 split
 ·omega
 ·split<;>omega
theorem adw {b:Bool} {n d:Nat} (hn:n<2^64) (hd:d<2^64) (hd0:d≠0) (K:Nat) (pre:aE):aQ P AZ K [.bool b,.int .u64 n,.int .u64 d] pre (aJ (.rat (sQ b n d) (cZ (sQ b n d))) []):=by
 refine bZ hT afb hm aix rfl aX rfl 60 aiA (fun _=>?_) K pre
 obtain⟨g,hg⟩:∃g,g=Nat.gcd n d:=⟨_,rfl⟩
 simp only[bn,<-hg,show Int.toNat 4=4 from rfl,Int.toNat_zero,Nat.zero_add,Nat.add_zero,Nat.sub_zero]
 have hg0:0<g:=by rw[hg];exact Nat.gcd_pos_of_pos_right _ aa
 have hgn:g∣n:=by rw[hg];exact Nat.gcd_dvd_left _ _
 have hgd:g∣d:=by rw[hg];exact Nat.gcd_dvd_right _ _
 have hN:n/g<2^64:=Nat.lt_of_le_of_lt (Nat.div_le_self _ _) hn
 have hD:d/g<2^64:=Nat.lt_of_le_of_lt (Nat.div_le_self _ _) hd
 have hD0:0<d/g:=Nat.div_pos (Nat.le_of_dvd aa hgd) hg0
 have hN0:n≠0->0<n/g:=fun h=>Nat.div_pos (Nat.le_of_dvd aa hgn) hg0
 have e1:IntKind.u64.wrap ((n:Int).tdiv (g:Int))=((n/g:Nat):Int):=by
  rw[<-Int.ofNat_tdiv,AS,Nat.mod_eq_of_lt hN]
 have e2:IntKind.u64.wrap ((d:Int).tdiv (g:Int))=((d/g:Nat):Int):=by
  rw[<-Int.ofNat_tdiv,AS,Nat.mod_eq_of_lt hD]
 rw[e1,e2]
 clear e1 e2
 have f1:n/g=n/Nat.gcd n d:=by rw[hg]
 have f2:d/g=d/Nat.gcd n d:=by rw[hg]
 generalize n/g=N at*
 generalize d/g=D at*
 simp only[bn]
 have hnl:∀x,fL x=1\/fL x=2:=fun x=>by unfold fL;split<;>simp
 have l1:=hnl N
 have l2:=hnl D
 have w1:IntKind.i64.wrap ((fL N:Int)+(fL D:Int))=((fL N+fL D:Nat):Int):=by rw[wrap_i64 aa aa];omega
 rw[w1]
 simp only[ah.all,aA,beq_iff_eq,beq_eq_false_iff_ne,ne_eq,bq,bw,bn]
 have hsz:Sz (sQ b n d) (cZ (sQ b n d)):=xu
 refine⟨fun hb=>⟨aa,aa,?_⟩,fun hb=>⟨⟨aa,aa⟩,⟨aa,aa⟩,aa,⟨?_,aa,aa,aa⟩,⟨aa,aa⟩,fun hc=>⟨⟨aa,?_,aa,aa,aa⟩,⟨aa,aa⟩,⟨aa,aa⟩,aa,?_⟩,fun hc=>⟨⟨aa,aa⟩,aa,?_⟩⟩⟩
 ·have hn0:n=0:=aa
  have:sQ b n d=0:=by rw[hn0,JL]
  rw[this]
  exact kG
 ·exact fun i hi=>⟨0,aa,rfl⟩
 ·refine gF (afC hN fun i hi=>?_)
  simp[numOf]
 ·have hn0:n≠0:=aa
  have hN0:=hN0 hn0
  refine bN.trans (b7 (vs:=[.bool b,.mag N,.mag D]) ⟨.refl _,me (Jk aa hN) fun i hi=>?_,me ?_ fun i hi=>?_,trivial⟩) (vg hn0 hd0 f1 ?_ hsz)
  ·show aD _ _=_
   unfold aD
   rw[agW hi,<-K3 (s:=0) (z:=fun i=>numOf (AV.int .u32 0)) hN hi]
   rfl
  ·rw[Jk aa hD];omega
  ·show aD _ _=_
   unfold aD
   rw[K3 hD aa]
  ·rw[<-f2,if_neg aa]
 ·have hn0:n≠0:=aa
  have hN0:=hN0 hn0
  refine bN.trans (b7 (vs:=[.bool b,.mag N,.mag 0]) ⟨.refl _,me (Jk aa hN) fun i hi=>?_,.refl _,trivial⟩) (vg hn0 hd0 f1 ?_ hsz)
  ·show aD _ _=_
   unfold aD
   rw[<-K3 (s:=0) (z:=fun i=>numOf (AV.int .u32 0)) hN hi]
   rfl
  ·rw[<-f2,if_pos aa]
def K9:Spec:=bY fun l=>match l with
 |[.bool b,.int .u64 n,.int .u64 d]=>some (aJ (.rat (sQ b n.toNat d.toNat) (cZ (sQ b n.toNat d.toNat))) [0<=n/\n<2^64,0<d/\d<2^64])
 |_=>none
theorem Tf:aW P K9 AZ:=by
 refine cJ fun K args r hk hs _=>?_
 split at hs
 ·rename_i b n d
  simp only[az]at hs
  subst hs
  intro need
  obtain⟨⟨h1,h2⟩,h3,h4⟩:(0<=n/\n<2^64)/\0<d/\d<2^64:=need
  obtain⟨n,rfl⟩:=Int.eq_ofNat_of_zero_le h1
  obtain⟨d,rfl⟩:=Int.eq_ofNat_of_zero_le (Int.le_of_lt h3)
  exact adw aa aa aa K [] trivial
 ·simp at hs
theorem aew (K:Nat) (pre:aE):aQ P AU K [] pre (aJ (.mag 1) []):=by
 refine bZ (T:=T) hT bz hm aoU rfl aX rfl 60 ahQ (fun _=>?_) K pre
 refine⟨by simp[aA],me (by decide) fun i hi=>?_⟩
 have:i=0:=aa
 subst this
 rfl
def Jr:Spec:=bY fun l=>match l with
 |[]=>some (aJ (.mag 1) [])
 |_=>none
theorem Vc:aW P Jr AU:=by
 refine cJ fun K args r hk hs _=>?_
 split at hs
 ·simp only[az]at hs
  subst hs
  exact aew K []
 ·simp at hs
end Go.Am.B
