/- rational.short and what is near it. -/
import Derived.Test.YtnniljlepppdpaaGreatB15
import Derived.Test.YtnniljlepppdpaaGreatZ2
set_option linter.unusedVariables false
namespace Go.Am.B
open Go Go.Am.N AV
theorem aaO:aU P xp DK (az DK):=aT Proofs.Tryz.func214 ah ah ah
theorem afE:aU P xA Ci (az Ci):=aT Proofs.Tryz.func259 ah ah ah
def GS:aV:=[(Bx,Oy),(zL,Iy)]
theorem agX {b:Bool} {n d:Nat}:bP T GS [13,35] 60 DK (az DK) ⟨aQ 0 [.bool b,.int .u64 n,.int .u64 d],[],0⟩=
  let c16:Int:=(↑n:Int);let c14:AV:=mag 0;let c13:AV:=int IntKind.u32 (0:Int);let c12:Nat:=Int.toNat (0:Int);let c7:Prop:=0<1;let c5:Nat:=Int.toNat (4:Int);let c10:Int:=(↑c5:Int);let c8:Nat:=numOf c13;let c4:Int:=(↑(c16.toNat.gcd (↑d:Int).toNat):Int);let c9:Int:=IntKind.u64.wrap (c16.tdiv c4);let c2:Int:=IntKind.u64.wrap ((↑d:Int).tdiv c4);let c1:Nat:=c9.toNat;let c3:Int:=(↑(e9 c1):Int);let c15:Prop:=(0:Int)<=c3;let c11:Nat:=0+c3.toNat;let c6:Int:=IntKind.i64.wrap (c3+(↑(e9 c2.toNat):Int));some (ag.fork (c16==(0:Int)) (ag.aj [c7] (ag.aj [c7] (ag.leaf ak.ret [agg [AV.bool false,c14,c14]]))) (ag.aj [(0:Int)<=c16,(0:Int)<=(↑d:Int)] (ag.aj [c4≠(0:Int),c4≠(0:Int)] (ag.aj [(0:Int)<=(4:Int)/\(4:Int)<=(4:Int)/\(4:Int)<=(2:Int)^47/\(4:Int)*(↑(4:Nat):Int)<=(2:Int)^47] (ag.aj [dN c5 fun x=>c13,(0:Int)<=c9/\c9<(2:Int)^64,e9 c1<=c5,(0:Nat)+c5<=c5] (ag.aj [(0:Int)<=(0:Int)/\c15/\c3<=c3/\c3<=c10,c7] (ag.fork (decide (c2>(1:Int))) (ag.aj [c15/\c3<=c10/\c10<=c10/\c10<=c10,dN c5 (aB (gR (fun i=>c8) 0 c1)),(0:Int)<=c2/\c2<(2:Int)^64,e9 c2.toNat<=c10.toNat-c3.toNat,c11+(c10.toNat-c3.toNat)<=c5] (ag.aj [c15/\c3<=c6/\c6<=c6/\c6<=c10,c7] (ag.aj [c7,c7] (ag.aj [c7] (ag.leaf ak.ret [agg [AV.bool b,aq 1 (c3.toNat-c12) fun i=>int IntKind.u32 (↑(gR (fun i=>numOf (aB (gR (fun i=>c8) 0 c1) i)) c11 c2.toNat (i+((0:Nat)+c12))):Int),aq 1 (c6.toNat-c3.toNat) fun i=>int IntKind.u32 (↑(gR (fun i=>numOf (aB (gR (fun i=>c8) 0 c1) i)) c11 c2.toNat (i+c11)):Int)]]))))) (ag.aj [c7,c7] (ag.aj [c7] (ag.leaf ak.ret [agg [AV.bool b,aq 1 (c3.toNat-c12) fun i=>int IntKind.u32 (↑(gR (fun i=>c8) 0 c1 (i+((0:Nat)+c12))):Int),c14]])))))))))):=ah
theorem aiz:bP T [] [] 60 Ci (az Ci) ⟨[],[],0⟩=
  some (ag.aj [(1:Nat)*1<=2^24] (ag.leaf ak.ret [aq 1 1 fun i=>nth [int IntKind.u32 (1:Int)] (int IntKind.u32 (0:Int)) (i+0)])):=ah
theorem ZF:bn P GS:=aI RP (aI acm bE)
theorem F0 {x:Nat} (h0:x≠0) (hx:x<2^64):nl x=e9 x:=by
 have h1:=gd.2 h0
 have h2:nl x<=2:=dm.2 hx
 unfold e9
 split
 ·have:nl x<=1:=dm.2 aa
  omega
 ·have:¬nl x<=1:=by rw[dm];omega
  omega
theorem Gl {z:Nat->Nat} {s x i:Nat} (hx:x<2^64) (hi:i<e9 x):gR z s x (i+s)=aC x i:=by
 unfold e9 at hi
 unfold gR aC
 by_cases h:i=0
 ·subst h;simp
 ·have h1:i=1:=by split at hi<;>omega
  subst h1
  have h2:4294967296<=x:=by split at hi<;>omega
  rw[if_neg aa,if_pos ⟨aa,h2⟩]
  simp only[Nat.mul_one]
  exact(Nat.mod_eq_of_lt aa).symm
theorem aa9 {z:Nat->Nat} {s x i:Nat} (hi:i<s):gR z s x i=z i:=by
 unfold gR
 rw[if_neg aa,if_neg aa]
theorem X3 {z:Nat->Nat} {s x n:Nat} (hx:x<2^64) (hz:∀i,i<n->z i<2^32):∀i,i<n->gR z s x i<2^32:=fun i hi=>by
 unfold gR
 have:=hz i hi
 split
 ·omega
 ·split<;>omega
theorem ajn {b:Bool} {n d:Nat} (hn:n<2^64) (hd:d<2^64) (hd0:d≠0) (K:Nat) (pre:aE):aD P xp K [.bool b,.int .u64 n,.int .u64 d] pre (aL (.rat (sQ b n d) (cK (sQ b n d))) []):=by
 refine bW hT ZF hm aaO rfl aW rfl 60 agX (fun _=>?_) K pre
 obtain⟨g,hg⟩:∃g,g=Nat.gcd n d:=⟨_,rfl⟩
 simp only[aX,<-hg,show Int.toNat 4=4 from rfl,Int.toNat_zero,Nat.zero_add,Nat.add_zero,Nat.sub_zero]
 have hg0:0<g:=by rw[hg];exact Nat.gcd_pos_of_pos_right _ aa
 have hgn:g∣n:=by rw[hg];exact Nat.gcd_dvd_left _ _
 have hgd:g∣d:=by rw[hg];exact Nat.gcd_dvd_right _ _
 have hN:n/g<2^64:=Nat.lt_of_le_of_lt (Nat.div_le_self _ _) hn
 have hD:d/g<2^64:=Nat.lt_of_le_of_lt (Nat.div_le_self _ _) hd
 have hD0:0<d/g:=Nat.div_pos (Nat.le_of_dvd aa hgd) hg0
 have hN0:n≠0->0<n/g:=fun h=>Nat.div_pos (Nat.le_of_dvd aa hgn) hg0
 have e1:IntKind.u64.wrap ((n:Int).tdiv (g:Int))=((n/g:Nat):Int):=by
  rw[<-Int.ofNat_tdiv,wW,Nat.mod_eq_of_lt hN]
 have e2:IntKind.u64.wrap ((d:Int).tdiv (g:Int))=((d/g:Nat):Int):=by
  rw[<-Int.ofNat_tdiv,wW,Nat.mod_eq_of_lt hD]
 rw[e1,e2]
 clear e1 e2
 have f1:n/g=n/Nat.gcd n d:=by rw[hg]
 have f2:d/g=d/Nat.gcd n d:=by rw[hg]
 generalize n/g=N at*
 generalize d/g=D at*
 simp only[aX]
 have hnl:∀x,e9 x=1\/e9 x=2:=fun x=>by unfold e9;split<;>simp
 have l1:=hnl N
 have l2:=hnl D
 have w1:IntKind.i64.wrap ((e9 N:Int)+(e9 D:Int))=((e9 N+e9 D:Nat):Int):=by rw[wrap_i64 aa aa];omega
 rw[w1]
 simp only[ag.all,aA,beq_iff_eq,beq_eq_false_iff_ne,ne_eq,bf,bt,aX]
 have hsz:Sz (sQ b n d) (cK (sQ b n d)):=yM
 refine⟨fun hb=>⟨aa,aa,?_⟩,fun hb=>⟨⟨aa,aa⟩,⟨aa,aa⟩,aa,⟨?_,aa,aa,aa⟩,⟨aa,aa⟩,fun hc=>⟨⟨aa,?_,aa,aa,aa⟩,⟨aa,aa⟩,⟨aa,aa⟩,aa,?_⟩,fun hc=>⟨⟨aa,aa⟩,aa,?_⟩⟩⟩
 ·have hn0:n=0:=aa
  have:sQ b n d=0:=by rw[hn0,Fy]
  rw[this]
  exact nh
 ·exact fun i hi=>⟨0,aa,rfl⟩
 ·refine fW (X3 hN fun i hi=>?_)
  simp[numOf]
 ·have hn0:n≠0:=aa
  have hN0:=hN0 hn0
  refine bD.trans (cu (vs:=[.bool b,.mag N,.mag D]) ⟨.refl _,lD (F0 aa hN) fun i hi=>?_,lD ?_ fun i hi=>?_,trivial⟩) (tM hn0 hd0 f1 ?_ hsz)
  ·show aB _ _=_
   unfold aB
   rw[aa9 hi,<-Gl (s:=0) (z:=fun i=>numOf (AV.int .u32 0)) hN hi]
   rfl
  ·rw[F0 aa hD];omega
  ·show aB _ _=_
   unfold aB
   rw[Gl hD aa]
  ·rw[<-f2,if_neg aa]
 ·have hn0:n≠0:=aa
  have hN0:=hN0 hn0
  refine bD.trans (cu (vs:=[.bool b,.mag N,.mag 0]) ⟨.refl _,lD (F0 aa hN) fun i hi=>?_,.refl _,trivial⟩) (tM hn0 hd0 f1 ?_ hsz)
  ·show aB _ _=_
   unfold aB
   rw[<-Gl (s:=0) (z:=fun i=>numOf (AV.int .u32 0)) hN hi]
   rfl
  ·rw[<-f2,if_pos aa]
def HR:Spec:=bM fun l=>match l with
 |[.bool b,.int .u64 n,.int .u64 d]=>some (aL (.rat (sQ b n.toNat d.toNat) (cK (sQ b n.toNat d.toNat))) [0<=n/\n<2^64,0<d/\d<2^64])
 |_=>none
theorem J1:∀K args pre r,HR K args pre=some r->aD P xp K args pre r:=by
 refine ct fun K args r hk hs _=>?_
 split at hs
 ·rename_i b n d
  simp only[au]at hs
  subst hs
  intro need
  obtain⟨⟨h1,h2⟩,h3,h4⟩:(0<=n/\n<2^64)/\0<d/\d<2^64:=need
  obtain⟨n,rfl⟩:=Int.eq_ofNat_of_zero_le h1
  obtain⟨d,rfl⟩:=Int.eq_ofNat_of_zero_le (Int.le_of_lt h3)
  exact ajn aa aa aa K [] trivial
 ·simp at hs
theorem aaN (K:Nat) (pre:aE):aD P xA K [] pre (aL (.mag 1) []):=by
 refine bW (T:=T) hT bE hm afE rfl aW rfl 60 aiz (fun _=>?_) K pre
 refine⟨by simp[aA],lD (by decide) fun i hi=>?_⟩
 have:i=0:=aa
 subst this
 rfl
def FO:Spec:=bM fun l=>match l with
 |[]=>some (aL (.mag 1) [])
 |_=>none
theorem Mo:∀K args pre r,FO K args pre=some r->aD P xA K args pre r:=by
 refine ct fun K args r hk hs _=>?_
 split at hs
 ·simp only[au]at hs
  subst hs
  exact aaN K []
 ·simp at hs
end Go.Am.B
