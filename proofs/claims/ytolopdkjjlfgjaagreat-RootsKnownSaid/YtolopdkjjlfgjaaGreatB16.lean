/- rational.short and what is near it. -/
import Derived.Test.YtolopdkjjlfgjaaGreatB15
import Derived.Test.YtolopdkjjlfgjaaGreatZ2
set_option linter.unusedVariables false
namespace Go.Am.B
open Go Go.Am.N AV Proofs.Tryz IntKind
theorem V7:bC 165 f165:=bD func165
theorem acI:bC 132 f132:=bD func132
def GS:bG:=[(179,Jk),(180,DM)]
theorem XP {b:Bool} {n d:Nat}:cy T GS [13,35] 60 f165 (aJ f165) ⟨bf 0 [.bool b,.int .u64 n,.int .u64 d],[],0⟩=
  let c16:Int:=(↑n:Int);let c14:AV:=mag 0;let c13:AV:=int .u32 (0:Int);let c12:Nat:=Int.toNat (0:Int);let c7:Prop:=0<1;let c5:Nat:=Int.toNat (4:Int);let c10:Int:=(↑c5:Int);let c8:Nat:=numOf c13;let c4:Int:=(↑(c16.toNat.gcd (↑d:Int).toNat):Int);let c9:Int:=u64.wrap (c16.tdiv c4);let c2:Int:=u64.wrap ((↑d:Int).tdiv c4);let c1:Nat:=c9.toNat;let c3:Int:=(↑(gP c1):Int);let c15:Prop:=(0:Int)<=c3;let c11:Nat:=0+c3.toNat;let c6:Int:=i64.wrap (c3+(↑(gP c2.toNat):Int));some (af.fork (c16==0) (af.aj [c7] (af.aj [c7] (af.leaf au.ret [agg [AV.bool false,c14,c14]]))) (af.aj [(0:Int)<=c16,(0:Int)<=(↑d:Int)] (af.aj [c4≠(0:Int),c4≠(0:Int)] (af.aj [(0:Int)<=4/\(4:Int)<=4/\(4:Int)<=2^47/\(4:Int)*(↑(4:Nat):Int)<=2^47] (af.aj [fq c5 fun x=>c13,(0:Int)<=c9/\c9<2^64,gP c1<=c5,(0:Nat)+c5<=c5] (af.aj [(0:Int)<=0/\c15/\c3<=c3/\c3<=c10,c7] (af.fork (decide (c2>1)) (af.aj [c15/\c3<=c10/\c10<=c10/\c10<=c10,fq c5 (aD (jx (fun i=>c8) 0 c1)),(0:Int)<=c2/\c2<2^64,gP c2.toNat<=c10.toNat-c3.toNat,c11+(c10.toNat-c3.toNat)<=c5] (af.aj [c15/\c3<=c6/\c6<=c6/\c6<=c10,c7] (af.aj [c7,c7] (af.aj [c7] (af.leaf au.ret [agg [AV.bool b,az 1 (c3.toNat-c12) fun i=>int .u32 (↑(jx (fun i=>numOf (aD (jx (fun i=>c8) 0 c1) i)) c11 c2.toNat (i+((0:Nat)+c12))):Int),az 1 (c6.toNat-c3.toNat) fun i=>int .u32 (↑(jx (fun i=>numOf (aD (jx (fun i=>c8) 0 c1) i)) c11 c2.toNat (i+c11)):Int)]]))))) (af.aj [c7,c7] (af.aj [c7] (af.leaf au.ret [agg [AV.bool b,az 1 (c3.toNat-c12) fun i=>int .u32 (↑(jx (fun i=>c8) 0 c1 (i+((0:Nat)+c12))):Int),c14]])))))))))):=ah
theorem SG:cy T [] [] 60 f132 (aJ f132) ⟨[],[],0⟩=
  some (af.aj [(1:Nat)*1<=2^24] (af.leaf au.ret [az 1 1 fun i=>nth [int .u32 (1:Int)] (int .u32 (0:Int)) (i+0)])):=ah
theorem Wr:cm P GS:=aM Ww (aM Ze cK)
theorem Eg {x:Nat} (h0:x≠0) (hx:x<2^64):nl x=gP x:=by
 have h1:=iP.2 h0
 have h2:nl x<=2:=eo.2 hx
 unfold gP
 split
 ·have:nl x<=1:=eo.2 aa
  omega
 ·have:¬nl x<=1:=by rw[eo];omega
  omega
theorem C0 {z:Nat->Nat} {s x i:Nat} (hx:x<2^64) (hi:i<gP x):jx z s x (i+s)=aE x i:=by
 unfold gP at hi
 unfold jx aE
 by_cases h:i=0
 ·subst h;simp
 ·have h1:i=1:=by split at hi<;>omega
  subst h1
  have h2:4294967296<=x:=by split at hi<;>omega
  rw[if_neg aa,if_pos ⟨aa,h2⟩]
  simp only[Nat.mul_one]
  exact(Nat.mod_eq_of_lt aa).symm
theorem XL {z:Nat->Nat} {s x i:Nat} (hi:i<s):jx z s x i=z i:=by
 unfold jx
 rw[if_neg aa,if_neg aa]
theorem adi {z:Nat->Nat} {s x n:Nat} (hx:x<2^64) (hz:∀i,i<n->z i<2^32):∀i,i<n->jx z s x i<2^32:=fun i hi=>by
 unfold jx
 have:=hz i hi
 split
 ·omega
 ·split<;>omega
theorem X7 {b:Bool} {n d:Nat} (hn:n<2^64) (hd:d<2^64) (hd0:d≠0) (K:Nat) (pre:aG):aY P 165 K [.bool b,.int .u64 n,.int .u64 d] pre (aT (.rat (sQ b n d) (dR (sQ b n d))) []):=by
 refine cB hT Wr hm V7 rfl br rfl 60 XP (fun _=>?_) K pre
 obtain⟨g,hg⟩:∃g,g=Nat.gcd n d:=⟨_,rfl⟩
 simp only[bJ,<-hg,show Int.toNat 4=4 from rfl,Int.toNat_zero,Nat.zero_add,Nat.add_zero,Nat.sub_zero]
 have hg0:0<g:=by rw[hg];exact Nat.gcd_pos_of_pos_right _ aa
 have hgn:g∣n:=by rw[hg];exact Nat.gcd_dvd_left _ _
 have hgd:g∣d:=by rw[hg];exact Nat.gcd_dvd_right _ _
 have hN:n/g<2^64:=Nat.lt_of_le_of_lt (Nat.div_le_self _ _) hn
 have hD:d/g<2^64:=Nat.lt_of_le_of_lt (Nat.div_le_self _ _) hd
 have hD0:0<d/g:=Nat.div_pos (Nat.le_of_dvd aa hgd) hg0
 have hN0:n≠0->0<n/g:=fun h=>Nat.div_pos (Nat.le_of_dvd aa hgn) hg0
 have e1:u64.wrap ((n:Int).tdiv (g:Int))=((n/g:Nat):Int):=by
  rw[<-Int.ofNat_tdiv,xU,Nat.mod_eq_of_lt hN]
 have e2:u64.wrap ((d:Int).tdiv (g:Int))=((d/g:Nat):Int):=by
  rw[<-Int.ofNat_tdiv,xU,Nat.mod_eq_of_lt hD]
 rw[e1,e2]
 clear e1 e2
 have f1:n/g=n/Nat.gcd n d:=by rw[hg]
 have f2:d/g=d/Nat.gcd n d:=by rw[hg]
 generalize n/g=N at*
 generalize d/g=D at*
 simp only[bJ]
 have hnl:∀x,gP x=1\/gP x=2:=fun x=>by unfold gP;split<;>simp
 have l1:=hnl N
 have l2:=hnl D
 have w1:i64.wrap ((gP N:Int)+(gP D:Int))=((gP N+gP D:Nat):Int):=by rw[wrap_i64 aa aa];omega
 rw[w1]
 simp only[af.all,aF,beq_iff_eq,beq_eq_false_iff_ne,ne_eq,bI,bO,bJ]
 have hsz:Sz (sQ b n d) (dR (sQ b n d)):=yY
 refine⟨fun hb=>⟨aa,aa,?_⟩,fun hb=>⟨⟨aa,aa⟩,⟨aa,aa⟩,aa,⟨?_,aa,aa,aa⟩,⟨aa,aa⟩,fun hc=>⟨⟨aa,?_,aa,aa,aa⟩,⟨aa,aa⟩,⟨aa,aa⟩,aa,?_⟩,fun hc=>⟨⟨aa,aa⟩,aa,?_⟩⟩⟩
 ·have hn0:n=0:=aa
  have:sQ b n d=0:=by rw[hn0,E5]
  rw[this]
  exact pH
 ·exact fun i hi=>⟨0,aa,rfl⟩
 ·refine iM (adi hN fun i hi=>?_)
  simp[numOf]
 ·have hn0:n≠0:=aa
  have hN0:=hN0 hn0
  refine bg.trans (m7 (vs:=[.bool b,.mag N,.mag D]) ⟨.refl _,mb (Eg aa hN) fun i hi=>?_,mb ?_ fun i hi=>?_,trivial⟩) (vt hn0 hd0 f1 ?_ hsz)
  ·show aD _ _=_
   unfold aD
   rw[XL hi,<-C0 (s:=0) (z:=fun i=>numOf (AV.int .u32 0)) hN hi]
   rfl
  ·rw[Eg aa hD];omega
  ·show aD _ _=_
   unfold aD
   rw[C0 hD aa]
  ·rw[<-f2,if_neg aa]
 ·have hn0:n≠0:=aa
  have hN0:=hN0 hn0
  refine bg.trans (m7 (vs:=[.bool b,.mag N,.mag 0]) ⟨.refl _,mb (Eg aa hN) fun i hi=>?_,.refl _,trivial⟩) (vt hn0 hd0 f1 ?_ hsz)
  ·show aD _ _=_
   unfold aD
   rw[<-C0 (s:=0) (z:=fun i=>numOf (AV.int .u32 0)) hN hi]
   rfl
  ·rw[<-f2,if_pos aa]
def Eu:Spec:=cw fun l=>match l with
 |[.bool b,.int .u64 n,.int .u64 d]=>some (aT (.rat (sQ b n.toNat d.toNat) (dR (sQ b n.toNat d.toNat))) [0<=n/\n<2^64,0<d/\d<2^64])
 |_=>none
theorem Hs:bF P Eu 165:=by
 refine cX fun K args r hk hs _=>?_
 split at hs
 ·rename_i b n d
  simp only[aB]at hs
  subst hs
  intro need
  obtain⟨⟨h1,h2⟩,h3,h4⟩:(0<=n/\n<2^64)/\0<d/\d<2^64:=need
  obtain⟨n,rfl⟩:=Int.eq_ofNat_of_zero_le h1
  obtain⟨d,rfl⟩:=Int.eq_ofNat_of_zero_le (Int.le_of_lt h3)
  exact X7 aa aa aa K [] trivial
 ·simp at hs
theorem adP (K:Nat) (pre:aG):aY P 132 K [] pre (aT (.mag 1) []):=by
 refine cB (T:=T) hT cK hm acI rfl br rfl 60 SG (fun _=>?_) K pre
 refine⟨by simp[aF],mb (by decide) fun i hi=>?_⟩
 have:i=0:=aa
 subst this
 rfl
def Ec:Spec:=cw fun l=>match l with
 |[]=>some (aT (.mag 1) [])
 |_=>none
theorem Ig:bF P Ec 132:=by
 refine cX fun K args r hk hs _=>?_
 split at hs
 ·simp only[aB]at hs
  subst hs
  exact adP K []
 ·simp at hs
end Go.Am.B
