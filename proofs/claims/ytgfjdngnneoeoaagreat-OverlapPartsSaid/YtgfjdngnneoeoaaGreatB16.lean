/- rational.short and what is near it. -/
import Derived.Test.YtgfjdngnneoeoaaGreatB15
import Derived.Test.YtgfjdngnneoeoaaGreatZ2
set_option linter.unusedVariables false
namespace Go.Am.B
open Go Go.Am.N AV Proofs.Tryz IntKind
theorem XB:aX 86 f86:=aM func86
theorem aiv:aX 82 f82:=aM func82
def GS:aV:=[(136,FP),(137,Em)]
theorem OL {b:Bool} {n d:Nat}:bF T GS [13,35] 60 f86 (aF f86) ⟨aS 0 [.bool b,.int .u64 n,.int .u64 d],[],0⟩=
  let c16:Int:=(↑n:Int);let c14:AV:=mag 0;let c13:AV:=int .u32 (0:Int);let c12:Nat:=Int.toNat (0:Int);let c7:Prop:=0<1;let c5:Nat:=Int.toNat (4:Int);let c10:Int:=(↑c5:Int);let c8:Nat:=numOf c13;let c4:Int:=(↑(c16.toNat.gcd (↑d:Int).toNat):Int);let c9:Int:=u64.wrap (c16.tdiv c4);let c2:Int:=u64.wrap ((↑d:Int).tdiv c4);let c1:Nat:=c9.toNat;let c3:Int:=(↑(fH c1):Int);let c15:Prop:=(0:Int)<=c3;let c11:Nat:=0+c3.toNat;let c6:Int:=i64.wrap (c3+(↑(fH c2.toNat):Int));some (ag.fork (c16==0) (ag.aj [c7] (ag.aj [c7] (ag.leaf aq.ret [agg [AV.bool false,c14,c14]]))) (ag.aj [(0:Int)<=c16,(0:Int)<=(↑d:Int)] (ag.aj [c4≠(0:Int),c4≠(0:Int)] (ag.aj [(0:Int)<=4/\(4:Int)<=4/\(4:Int)<=2^47/\(4:Int)*(↑(4:Nat):Int)<=2^47] (ag.aj [eo c5 fun x=>c13,(0:Int)<=c9/\c9<2^64,fH c1<=c5,(0:Nat)+c5<=c5] (ag.aj [(0:Int)<=0/\c15/\c3<=c3/\c3<=c10,c7] (ag.fork (decide (c2>1)) (ag.aj [c15/\c3<=c10/\c10<=c10/\c10<=c10,eo c5 (aA (iJ (fun i=>c8) 0 c1)),(0:Int)<=c2/\c2<2^64,fH c2.toNat<=c10.toNat-c3.toNat,c11+(c10.toNat-c3.toNat)<=c5] (ag.aj [c15/\c3<=c6/\c6<=c6/\c6<=c10,c7] (ag.aj [c7,c7] (ag.aj [c7] (ag.leaf aq.ret [agg [AV.bool b,ak 1 (c3.toNat-c12) fun i=>int .u32 (↑(iJ (fun i=>numOf (aA (iJ (fun i=>c8) 0 c1) i)) c11 c2.toNat (i+((0:Nat)+c12))):Int),ak 1 (c6.toNat-c3.toNat) fun i=>int .u32 (↑(iJ (fun i=>numOf (aA (iJ (fun i=>c8) 0 c1) i)) c11 c2.toNat (i+c11)):Int)]]))))) (ag.aj [c7,c7] (ag.aj [c7] (ag.leaf aq.ret [agg [AV.bool b,ak 1 (c3.toNat-c12) fun i=>int .u32 (↑(iJ (fun i=>c8) 0 c1 (i+((0:Nat)+c12))):Int),c14]])))))))))):=ah
theorem abE:bF T [] [] 60 f82 (aF f82) ⟨[],[],0⟩=
  some (ag.aj [(1:Nat)*1<=2^24] (ag.leaf aq.ret [ak 1 1 fun i=>nth [int .u32 (1:Int)] (int .u32 (0:Int)) (i+0)])):=ah
theorem Qb:bg P GS:=aE Sb (aE T3 bD)
theorem CD {x:Nat} (h0:x≠0) (hx:x<2^64):nl x=fH x:=by
 have h1:=gE.2 h0
 have h2:nl x<=2:=dL.2 hx
 unfold fH
 split
 ·have:nl x<=1:=dL.2 aa
  omega
 ·have:¬nl x<=1:=by rw[dL];omega
  omega
theorem A4 {z:Nat->Nat} {s x i:Nat} (hx:x<2^64) (hi:i<fH x):iJ z s x (i+s)=aB x i:=by
 unfold fH at hi
 unfold iJ aB
 by_cases h:i=0
 ·subst h;simp
 ·have h1:i=1:=by split at hi<;>omega
  subst h1
  have h2:4294967296<=x:=by split at hi<;>omega
  rw[if_neg aa,if_pos ⟨aa,h2⟩]
  simp only[Nat.mul_one]
  exact(Nat.mod_eq_of_lt aa).symm
theorem age {z:Nat->Nat} {s x i:Nat} (hi:i<s):iJ z s x i=z i:=by
 unfold iJ
 rw[if_neg aa,if_neg aa]
theorem XX {z:Nat->Nat} {s x n:Nat} (hx:x<2^64) (hz:∀i,i<n->z i<2^32):∀i,i<n->iJ z s x i<2^32:=fun i hi=>by
 unfold iJ
 have:=hz i hi
 split
 ·omega
 ·split<;>omega
theorem aft {b:Bool} {n d:Nat} (hn:n<2^64) (hd:d<2^64) (hd0:d≠0) (K:Nat) (pre:aD):aN P 86 K [.bool b,.int .u64 n,.int .u64 d] pre (aH (.rat (sQ b n d) (dr (sQ b n d))) []):=by
 refine bM hT Qb hm XB rfl aW rfl 60 OL (fun _=>?_) K pre
 obtain⟨g,hg⟩:∃g,g=Nat.gcd n d:=⟨_,rfl⟩
 simp only[br,<-hg,show Int.toNat 4=4 from rfl,Int.toNat_zero,Nat.zero_add,Nat.add_zero,Nat.sub_zero]
 have hg0:0<g:=by rw[hg];exact Nat.gcd_pos_of_pos_right _ aa
 have hgn:g∣n:=by rw[hg];exact Nat.gcd_dvd_left _ _
 have hgd:g∣d:=by rw[hg];exact Nat.gcd_dvd_right _ _
 have hN:n/g<2^64:=Nat.lt_of_le_of_lt (Nat.div_le_self _ _) hn
 have hD:d/g<2^64:=Nat.lt_of_le_of_lt (Nat.div_le_self _ _) hd
 have hD0:0<d/g:=Nat.div_pos (Nat.le_of_dvd aa hgd) hg0
 have hN0:n≠0->0<n/g:=fun h=>Nat.div_pos (Nat.le_of_dvd aa hgn) hg0
 have e1:u64.wrap ((n:Int).tdiv (g:Int))=((n/g:Nat):Int):=by
  rw[<-Int.ofNat_tdiv,xA,Nat.mod_eq_of_lt hN]
 have e2:u64.wrap ((d:Int).tdiv (g:Int))=((d/g:Nat):Int):=by
  rw[<-Int.ofNat_tdiv,xA,Nat.mod_eq_of_lt hD]
 rw[e1,e2]
 clear e1 e2
 have f1:n/g=n/Nat.gcd n d:=by rw[hg]
 have f2:d/g=d/Nat.gcd n d:=by rw[hg]
 generalize n/g=N at*
 generalize d/g=D at*
 simp only[br]
 have hnl:∀x,fH x=1\/fH x=2:=fun x=>by unfold fH;split<;>simp
 have l1:=hnl N
 have l2:=hnl D
 have w1:i64.wrap ((fH N:Int)+(fH D:Int))=((fH N+fH D:Nat):Int):=by rw[wrap_i64 aa aa];omega
 rw[w1]
 simp only[ag.all,au,beq_iff_eq,beq_eq_false_iff_ne,ne_eq,bz,bG,br]
 have hsz:Sz (sQ b n d) (dr (sQ b n d)):=uU
 refine⟨fun hb=>⟨aa,aa,?_⟩,fun hb=>⟨⟨aa,aa⟩,⟨aa,aa⟩,aa,⟨?_,aa,aa,aa⟩,⟨aa,aa⟩,fun hc=>⟨⟨aa,?_,aa,aa,aa⟩,⟨aa,aa⟩,⟨aa,aa⟩,aa,?_⟩,fun hc=>⟨⟨aa,aa⟩,aa,?_⟩⟩⟩
 ·have hn0:n=0:=aa
  have:sQ b n d=0:=by rw[hn0,Et]
  rw[this]
  exact k9
 ·exact fun i hi=>⟨0,aa,rfl⟩
 ·refine gD (XX hN fun i hi=>?_)
  simp[numOf]
 ·have hn0:n≠0:=aa
  have hN0:=hN0 hn0
  refine bp.trans (cj (vs:=[.bool b,.mag N,.mag D]) ⟨.refl _,lz (CD aa hN) fun i hi=>?_,lz ?_ fun i hi=>?_,trivial⟩) (ud hn0 hd0 f1 ?_ hsz)
  ·show aA _ _=_
   unfold aA
   rw[age hi,<-A4 (s:=0) (z:=fun i=>numOf (AV.int .u32 0)) hN hi]
   rfl
  ·rw[CD aa hD];omega
  ·show aA _ _=_
   unfold aA
   rw[A4 hD aa]
  ·rw[<-f2,if_neg aa]
 ·have hn0:n≠0:=aa
  have hN0:=hN0 hn0
  refine bp.trans (cj (vs:=[.bool b,.mag N,.mag 0]) ⟨.refl _,lz (CD aa hN) fun i hi=>?_,.refl _,trivial⟩) (ud hn0 hd0 f1 ?_ hsz)
  ·show aA _ _=_
   unfold aA
   rw[<-A4 (s:=0) (z:=fun i=>numOf (AV.int .u32 0)) hN hi]
   rfl
  ·rw[<-f2,if_pos aa]
def Ec:Spec:=bX fun l=>match l with
 |[.bool b,.int .u64 n,.int .u64 d]=>some (aH (.rat (sQ b n.toNat d.toNat) (dr (sQ b n.toNat d.toNat))) [0<=n/\n<2^64,0<d/\d<2^64])
 |_=>none
theorem Jo:bf P Ec 86:=by
 refine cM fun K args r hk hs _=>?_
 split at hs
 ·rename_i b n d
  simp only[ax]at hs
  subst hs
  intro need
  obtain⟨⟨h1,h2⟩,h3,h4⟩:(0<=n/\n<2^64)/\0<d/\d<2^64:=need
  obtain⟨n,rfl⟩:=Int.eq_ofNat_of_zero_le h1
  obtain⟨d,rfl⟩:=Int.eq_ofNat_of_zero_le (Int.le_of_lt h3)
  exact aft aa aa aa K [] trivial
 ·simp at hs
theorem WG (K:Nat) (pre:aD):aN P 82 K [] pre (aH (.mag 1) []):=by
 refine bM (T:=T) hT bD hm aiv rfl aW rfl 60 abE (fun _=>?_) K pre
 refine⟨by simp[au],lz (by decide) fun i hi=>?_⟩
 have:i=0:=aa
 subst this
 rfl
def Dr:Spec:=bX fun l=>match l with
 |[]=>some (aH (.mag 1) [])
 |_=>none
theorem FK:bf P Dr 82:=by
 refine cM fun K args r hk hs _=>?_
 split at hs
 ·simp only[ax]at hs
  subst hs
  exact WG K []
 ·simp at hs
end Go.Am.B
