/- ref01: Div, Gcd: what their pieces come to. -/
import Derived.Test.YtfjlccdmhpdiiaaGreatY6
import Derived.Test.YtfjlccdmhpdiiaaGreatZ2
import Init
set_option linter.unusedVariables false
noncomputable section
namespace Go.Am.B
open Go Go.Am.N AV Proofs.Tryz IntKind
theorem Ua:aW 187 f187:=aT func187
def mD:aX:=[(126,zA),(185,ud),(227,Gr),(190,wY),(189,Dh),(228,JB),(229,Jv),(231,M0),(230,HE),(188,nO (fun A B=>.mag (A-B)) fun A B=>[B<=A,nl A<2^40]),(232,Jr)]
abbrev qe:List Nat:=[1,1,1,1,1,1,1,1,1,0,1]
abbrev qy:Code:=part (aF f187) [1,1,1,1,1,1,1,1,1,0,1,0,0]
abbrev ot:Code:=part qy [1,0,0]
abbrev fP:List Nat:=[1,13,5,14,4,15]
abbrev js (V s R lq:Nat) (j:Int) (K:Nat):List AV:=[.mag V,.int .i64 s,.mag R,.int .i64 (nl V),.own K 1 0 lq,.int .i64 j]
theorem nv:bq P mD:=aI AE (aI zD (aI LP (aI Cq (aI Lf (aI ajh (aI Sv (aI ah2 (aI afG (aI (qE fun h=>OU h.1 h.2) (aI adP bB))))))))))
theorem YN {A B:Nat}:aH T mD [21,25,33,49] 60 [0,1,4,5,6] ((before (aF f187) qe).take 5) ⟨aQ 0 [.mag A,.mag B],[],0⟩=
  let c8:Int:=(2:Int)^64;let c6:Nat:=2^40;let c5:List AV:=[int .i64 (0:Int)];let c3:Int:=(↑(aD B (Int.toNat (0:Int))):Int);let c2:Int:=(↑(if gG A=true then A else 0):Int);let c1:Int:=(↑(if gG B=true then B else 0):Int);let c7:Int:=u64.wrap (c2.tdiv c1);let c4:Int:=u64.wrap (↑(A%c3.toNat):Int);some (ag.fork ((↑(nl B):Int)==0) (ag.leaf aq.ret ([mag A,mag B,nil,nil,int .i64 (3:Int)],[])) (ag.aj [nl A<c6,nl B<c6] (ag.fork (decide (cZ A B<0)) (ag.aj [nl A<c6] (ag.leaf aq.ret (mag A::mag B::nil::mag A::c5,[]))) (ag.fork (gG A) (ag.aj [c1≠(0:Int),(0:Int)<=c7/\c7<c8,c1≠(0:Int),(0:Int)<=c2.tmod c1/\c2.tmod c1<c8] (ag.leaf aq.ret (mag A::mag B::mag c7.toNat::mag (c2.tmod c1).toNat::c5,[]))) (ag.fork ((↑(nl B):Int)==1) (ag.aj [(0:Int)<=0/\Int.toNat (0:Int)<nl B,nl A<c6,(0:Int)<c3,c3<2^32] (ag.aj [(0:Int)<=c4/\c4<c8] (ag.leaf aq.ret (mag A::mag B::mag (A/c3.toNat)::mag c4.toNat::c5,[])))) (ag.leaf aq.normal (mag A::mag B::nil::nil::c5,[]))))))):=ah
theorem adN {A B:Nat}:aH T mD [] 60 [0,1,13] (((before (aF f187) qe).drop 5).take 1) ⟨aA [0,1] [.mag A,.mag B],[],0⟩=
  let c2:Int:=(↑(nl B):Int);let c1:Int:=i64.wrap (c2-1);let c4:Nat:=c2.toNat-c1.toNat;let c3:Nat:=val c4 fun i=>numOf (int .u32 (↑(aD B (i+c1.toNat)):Int));some (ag.aj [(0:Int)<=c1/\c1<=c2/\c2<=c2/\c2<=c2,eG c4 fun i=>int .u32 (↑(aD B (i+c1.toNat)):Int),c4<2^40,nl c3=c4] (ag.leaf aq.normal ([mag A,mag B,int .i64 (i64.wrap ((32:Int)-(↑(bN c3):Int)))],[]))):=ah
theorem abg {A B s:Nat}:aH T mD [] 60 fP ((before (aF f187) qe).drop (5+1)) ⟨aA [0,1,13] [.mag A,.mag B,.int .i64 s],[],0⟩=
  let c4:Int:=(↑s:Int);let c5:Prop:=c4<2^43;let c2:Nat:=2^c4.toNat;let c3:Int:=i64.wrap ((↑(nl (A*c2)):Int)-(↑(nl (B*c2)):Int));let c1:Int:=i64.wrap (c3+1);some (ag.aj [nl B<2^39,(0:Int)<=c4,c5,nl A<2^39,(0:Int)<=c4,c5] (ag.aj [(0:Int)<=c1/\c1<=c1/\c1<=2^47/\c1*(↑(4:Nat):Int)<=2^47] (ag.leaf aq.normal ([mag (B*c2),int .i64 c4,mag (A*c2),int .i64 (↑(nl (B*c2)):Int),own 65536 1 0 c1.toNat,int .i64 c3],[(65536,au.mk true true 1 c1.toNat fun x=>int .u32 (0:Int))])))):=ah
theorem agr {V s R lq m:Nat} {q:Nat->Nat}:aH T mD [88] 60 fP [part qy [0]] ⟨aA fP (js V s R lq ((m:Int)-1) 7),dB 7 lq q,8⟩=
  let c2:Int:=(↑m:Int)-1;let c1:List AV×aC:=([mag V,int .i64 (↑s:Int),mag R,int .i64 (↑(nl V):Int),own 7 1 0 lq,int .i64 c2],[(7,au.mk true true 1 lq fun a=>int .u32 (↑(q a):Int))]);some (ag.fork (decide (c2>=0)) (ag.leaf aq.normal c1) (ag.leaf (aq.exit 0) c1)):=ah
theorem Yz {V s R lq j:Nat} {q:Nat->Nat}:aH T mD [96,110] 60 (fP++[16]) ((before ot [1,1,1,1,1,0]).take 3) ⟨aA fP (js V s R lq (j:Nat) 7),dB 7 lq q,8⟩=
  let c11:Int:=(2:Int)^min (Int.toNat (32:Int)) u64.bits;let c10:Prop:=(0:Int)<=32;let c9:Int:=(↑(nl R):Int);let c8:AV:=int .i64 (↑s:Int);let c7:AV:=int .i64 (↑j:Int);let c6:AV:=int .i64 (↑(nl V):Int);let c5:AV:=own 7 1 0 lq;let c3:Nat×au:=(7,au.mk true true 1 lq fun a=>int .u32 (↑(q a):Int));let c2:Int:=i64.wrap ((↑j:Int)+(↑(nl V):Int));let c4:Int:=u64.wrap (u64.wrap (↑(aD R c2.toNat):Int)*c11);let c1:Int:=i64.wrap (c2-1);let c13:List Prop:=[c10,(0:Int)<=c1/\c1.toNat<nl R];let c12:BitVec u64.bits:=BitVec.ofInt u64.bits (u64.wrap (↑(aD R c1.toNat):Int));some (ag.fork (decide (c2<c9)) (ag.aj [(0:Int)<=c2/\c2.toNat<nl R] (ag.fork (decide (c1<c9)) (ag.aj c13 (ag.leaf aq.normal ([mag V,c8,mag R,c6,c5,c7,int .u64 (u64.wrap (↑(BitVec.ofInt u64.bits c4|||c12).toNat:Int))],[c3]))) (ag.aj [c10] (ag.leaf aq.normal ([mag V,c8,mag R,c6,c5,c7,int .u64 c4],[c3]))))) (ag.fork (decide (c1<c9)) (ag.aj c13 (ag.leaf aq.normal ([mag V,c8,mag R,c6,c5,c7,int .u64 (u64.wrap (↑(BitVec.ofInt u64.bits (u64.wrap ((0:Int)*c11))|||c12).toNat:Int))],[c3]))) (ag.aj [c10] (ag.leaf aq.normal ([mag V,c8,mag R,c6,c5,c7,int .u64 (0:Int)],[c3]))))):=ah
theorem agv {V s R lq j t:Nat} {q:Nat->Nat}:aH T mD [] 60 (fP++[17]) (((before ot [1,1,1,1,1,0]).drop 3).take 1) ⟨aA (fP++[16]) (js V s R lq (j:Nat) 7++[.int .u64 t]),dB 7 lq q,8⟩=
  let c2:Int:=i64.wrap ((↑(nl V):Int)-1);let c1:Int:=u64.wrap (↑(aD V c2.toNat):Int);let c3:Int:=u64.wrap ((↑t:Int).tdiv c1);some (ag.aj [(0:Int)<=c2/\c2.toNat<nl V,c1≠(0:Int)] (ag.leaf aq.normal ([mag V,int .i64 (↑s:Int),mag R,int .i64 (↑(nl V):Int),own 7 1 0 lq,int .i64 (↑j:Int),int .u64 (if(4294967295:Int)<c3 then(4294967295:Int)else c3)],[(7,au.mk true true 1 lq fun a=>int .u32 (↑(q a):Int))]))):=ah
theorem agw {V s R lq j d:Nat} {q:Nat->Nat}:aH T mD [] 60 (fP++[17,18]) ((before ot [1,1,1,1,1,0]).drop (3+1)) ⟨aA (fP++[17]) (js V s R lq (j:Nat) 7++[.int .u64 d]),dB 7 lq q,8⟩=
  let c2:Int:=(↑j:Int);let c1:Int:=u32.wrap (↑d:Int);some (ag.aj [nl V<2^39,(0:Int)<=c1,c1<2^32,nl (V*c1.toNat)<2^40,(0:Int)<=c2,c2<2^40] (ag.leaf aq.normal ([mag V,int .i64 (↑s:Int),mag R,int .i64 (↑(nl V):Int),own 7 1 0 lq,int .i64 c2,int .u64 (↑d:Int),mag (V*c1.toNat*2^((32:Nat)*c2.toNat))],[(7,au.mk true true 1 lq fun a=>int .u32 (↑(q a):Int))]))):=ah
theorem X0 {V s R lq j d X:Nat} {q:Nat->Nat}:aH T mD [142] 60 (fP++[17,18]) [part ot [1,1,1,1,1,0,0,0]] ⟨aA (fP++[17,18]) (js V s R lq (j:Nat) 7++[.int .u64 d,.mag X]),dB 7 lq q,8⟩=
  let c7:AV:=int .i64 (↑s:Int);let c6:Int:=(↑j:Int);let c5:AV:=int .i64 (↑(nl V):Int);let c4:AV:=own 7 1 0 lq;let c2:Nat:=2^40;let c1:Nat×au:=(7,au.mk true true 1 lq fun a=>int .u32 (↑(q a):Int));let c3:Nat:=V*2^((32:Nat)*c6.toNat);some (ag.aj [nl X<c2,nl R<c2] (ag.fork (decide (cZ X R>0)) (ag.aj [nl V<c2,(0:Int)<=c6,c6<2^40,c3<=X,nl X<c2] (ag.leaf aq.normal ([mag V,c7,mag R,c5,c4,int .i64 c6,int .u64 (u64.wrap ((↑d:Int)-1)),mag (X-c3)],[c1]))) (ag.leaf (aq.exit 2) ([mag V,c7,mag R,c5,c4,int .i64 c6,int .u64 (↑d:Int),mag X],[c1])))):=ah
theorem agq {V s R lq j d X:Nat} {q:Nat->Nat}:aH T mD [] 60 fP (behind ot [1,1,1,1,1,0]) ⟨aA (fP++[17,18]) (js V s R lq (j:Nat) 7++[.int .u64 d,.mag X]),dB 7 lq q,8⟩=
  let c2:Int:=(↑j:Int);let c1:Nat:=c2.toNat+0;some (ag.aj [(0:Int)<=c2/\c2.toNat<lq,c1<lq] (ag.aj [X<=R,nl R<2^40] (ag.leaf aq.normal ([mag V,int .i64 (↑s:Int),mag (R-X),int .i64 (↑(nl V):Int),own 7 1 0 lq,int .i64 c2],[(7,au.mk true true 1 lq fun j=>if(j==c1)=true then int .u32 (u32.wrap (↑d:Int))else aB q j)])))):=ah
theorem Yf {V s R lq j:Nat} {q:Nat->Nat}:aH T mD [] 60 fP [part qy [1,1]] ⟨aA fP (js V s R lq (j:Nat) 7),dB 7 lq q,8⟩=
  some (ag.leaf aq.normal ([mag V,int .i64 (↑s:Int),mag R,int .i64 (↑(nl V):Int),own 7 1 0 lq,int .i64 (i64.wrap ((↑j:Int)-1))],[(7,au.mk true true 1 lq fun a=>int .u32 (↑(q a):Int))])):=ah
theorem Xr {V s R lq:Nat} {q:Nat->Nat} {j:Int}:cy T mD [] 60 f187 (behind (aF f187) qe) ⟨aA fP (js V s R lq j 7),dB 7 lq q,8⟩=
  some (ag.aj [eG lq fun i=>aB q (i+0),lq<2^40,nl R<2^40,(0:Int)<=(↑s:Int),(↑s:Int)<2^62] (ag.leaf aq.ret [mag (val lq fun i=>numOf (aB q (i+0))),mag (R/2^(↑s:Int).toNat),int .i64 (0:Int)])):=ah
theorem Uq {R i:Nat} (h:R<2^(32*(i+2))):aD R (i+1)*4294967296+aD R i=R/2^(32*i):=by
 unfold aD
 have e:R/2^(32*(i+1))=R/2^(32*i)/4294967296:=by rw[Nat.div_div_eq_div_mul,show(4294967296:Nat)=2^32 from rfl,<-Nat.pow_add];congr 2
 rw[e]
 have h2:R/2^(32*i)<4294967296*4294967296:=by
  rw[Nat.div_lt_iff_lt_mul (Nat.two_pow_pos _),show(4294967296*4294967296:Nat)=2^64 from rfl,<-Nat.pow_add]
  rw[show 64+32*i=32*(i+2) by omega];exact h
 generalize R/2^(32*i)=X at*
 omega
theorem Rn {a b:Nat}:cZ a b>0↔b<a:=by
 unfold cZ
 split
 ·simp;omega
 ·split<;>simp_all
theorem ahH {x:Nat} (h:4294967295<x):(4294967295:Int)<(x:Int):=aa
theorem ahK {x:Nat} (h:¬4294967295<x):¬(4294967295:Int)<(x:Int):=aa
section pieces
variable {c:Ctx} (h0:∀nx k x,c.k0 k=some x->k<nx) {Q:aq->aK->Prop} {V s R lq j:Nat} {q:Nat->Nat} {s':aK}
include h0 in
theorem Xa (hn:2<=nl V) (hnV:nl V<2^40) (hj:j<2^40) (hR:R<2^(32*(j+nl V+1)))
  (hv:bA fP s'=some (js V s R lq j 7,dB 7 lq q))
  (fin:∀s',bA (fP++[16]) s'=some (js V s R lq j 7++[.int .u64 (R/2^(32*(j+nl V-1)):Nat)],dB 7 lq q)->Q .normal s'):
  aG P c f187.ntmps ((before ot [1,1,1,1,1,0]).take 3) s' Q:=by
 refine aG.fS hT nv hm 60 hv (h0 _) rfl (iz aa) (fP++[16]) Yz ah ah ?_
 have w1:i64.wrap ((j:Int)+(nl V:Int))=((j+nl V:Nat):Int):=fE aa aa
 have w2:i64.wrap (((j+nl V:Nat):Int)-1)=((j+nl V-1:Nat):Int):=fE aa aa
 have l1:=dY (N:=R) (i:=j+nl V)
 have l2:=dY (N:=R) (i:=j+nl V-1)
 have ht:=Uq (R:=R) (i:=j+nl V-1) (by rw[show j+nl V-1+2=j+nl V+1 by omega];exact hR)
 rw[show j+nl V-1+1=j+nl V by omega]at ht
 have wl:u64.wrap (aD R (j+nl V):Int)=((aD R (j+nl V):Nat):Int):=cr aa aa
 rw[w1,w2]
 simp only[ag.all,az,bk,bt,bf]
 rw[wl,vv l1 l2]
 have hz:=vv (a:=0) (b:=aD R (j+nl V-1)) aa l2
 have ez:((0:Nat):Int)=0:=rfl
 rw[ez]at hz
 rw[hz]
 refine⟨fun h1=>⟨aa,fun h2=>⟨⟨aa,aa⟩,fun s' hv=>fin s' (ec hv ?_ rfl)⟩,fun h2=>aa⟩,fun h1=>⟨fun h2=>⟨⟨aa,aa⟩,fun s' hv=>fin s' (ec hv ?_ rfl)⟩,fun h2=>⟨aa,fun s' hv=>fin s' (ec hv ?_ rfl)⟩⟩⟩
 ·rw[ht];rfl
 ·rw[jZ (A:=R) (i:=j+nl V) aa]at ht
  rw[ht];rfl
 ·rw[jZ (A:=R) (i:=j+nl V) aa,jZ (A:=R) (i:=j+nl V-1) aa]at ht
  rw[<-ht];rfl
include h0 in
theorem Yg (hn:2<=nl V) (hnV:nl V<2^39) (hj:j<2^39) (hjq:j<lq) (hlq:lq<2^40) (hR:R<V*2^(32*(j+1))) (hv1:0<aD V (nl V-1))
  (hv:bA fP s'=some (js V s R lq j 7,dB 7 lq q))
  (fin:∀s',R/(V*2^(32*j))<4294967296->bA fP s'=some (js V s (R%(V*2^(32*j))) lq j 7,dB 7 lq (cE q j (R/(V*2^(32*j)))))->Q .normal s'):
  ax P c f187.ntmps ot s' Q:=by
 have hV0:0<V:=Nat.pos_of_ne_zero (g9.1 aa)
 have hTp:0<2^(32*j):=Nat.two_pow_pos _
 have hVT:0<V*2^(32*j):=Nat.mul_pos hV0 hTp
 have hVl:V<2^(32*nl V):=oD
 have hR2:R<2^(32*(j+nl V+1)):=by
  refine Nat.lt_trans hR ?_
  rw[show 32*(j+nl V+1)=32*nl V+32*(j+1) by omega,Nat.pow_add]
  exact(Nat.mul_lt_mul_right (Nat.two_pow_pos _)).2 hVl
 have hnR:nl R<=j+nl V+1:=dF.2 hR2
 obtain⟨qt,hqt⟩:∃qt,qt=R/(V*2^(32*j)):=⟨_,rfl⟩
 have hq32:qt<4294967296:=by
  rw[hqt,Nat.div_lt_iff_lt_mul hVT]
  have e:V*2^(32*(j+1))=4294967296*(V*2^(32*j)):=by rw[iS,<-Nat.mul_assoc,Nat.mul_comm V,Nat.mul_assoc]
  omega
 have hqle:qt*(V*2^(32*j))<=R:=by rw[hqt];exact Nat.div_mul_le_self _ _
 have hqlt:∀d,R<d*(V*2^(32*j))->qt<d:=fun d h=>by rw[hqt,Nat.div_lt_iff_lt_mul hVT];exact h
 have K3:aD V (nl V-1)*2^(32*(nl V-1))<=V:=by
  have:=gI (N:=V)
  obtain⟨k,hk⟩:∃k,nl V=k+1:=⟨nl V-1,aa⟩
  rw[hk,val]at this
  rw[hk,Nat.add_sub_cancel]
  omega
 have hqtop:qt<=R/2^(32*(j+nl V-1))/aD V (nl V-1):=by
  rw[Nat.le_div_iff_mul_le hv1,Nat.le_div_iff_mul_le (Nat.two_pow_pos _)]
  refine Nat.le_trans ?_ hqle
  rw[show 32*(j+nl V-1)=32*(nl V-1)+32*j by omega,Nat.pow_add,Nat.mul_assoc,<-Nat.mul_assoc (aD V (nl V-1))]
  exact Nat.mul_le_mul_left _ (Nat.mul_le_mul_right _ K3)
 refine ax.hole [1,1,1,1,1,0] ah (aG.chunk 3 (Xa h0 hn aa aa hR2 hv fun s' hv=>cJ ?_))
 have lv1:=dY (N:=V) (i:=nl V-1)
 have w1:i64.wrap ((nl V:Int)-1)=((nl V-1:Nat):Int):=fE aa aa
 have htop64:R/2^(32*(j+nl V-1))<2^64:=by
  rw[Nat.div_lt_iff_lt_mul (Nat.two_pow_pos _),<-Nat.pow_add,show 64+32*(j+nl V-1)=32*(j+nl V+1) by omega];exact hR2
 refine aG.chunk 1 (aG.fS hT nv hm 60 hv (h0 _) rfl (iz aa) (fP++[17]) agv ah ah ?_)
 have wl:u64.wrap (aD V (nl V-1):Int)=((aD V (nl V-1):Nat):Int):=cr aa aa
 rw[w1]
 simp only[ag.all,az,bf]
 rw[wl]
 obtain⟨t,ht⟩:∃t,t=R/2^(32*(j+nl V-1)):=⟨_,rfl⟩
 rw[<-ht]at hqtop htop64 ⊢
 have htd:t/aD V (nl V-1)<=t:=Nat.div_le_self _ _
 have w2:u64.wrap ((t:Int).tdiv ((aD V (nl V-1):Nat):Int))=((t/aD V (nl V-1):Nat):Int):=by
  rw[<-Int.ofNat_tdiv,xE,Nat.mod_eq_of_lt aa]
 rw[w2]
 obtain⟨d0,hd0⟩:∃d0:Nat,d0=if 4294967295<t/aD V (nl V-1)then 4294967295 else t/aD V (nl V-1):=⟨_,rfl⟩
 have w3:(if(4294967295:Int)<((t/aD V (nl V-1):Nat):Int)then(4294967295:Int)else((t/aD V (nl V-1):Nat):Int))=(d0:Int):=by
  rw[hd0]
  by_cases h:4294967295<t/aD V (nl V-1)
  ·rw[if_pos h,if_pos (ahH h)];rfl
  ·rw[if_neg h,if_neg (ahK h)]
 have hd32:d0<4294967296:=by rw[hd0];split<;>omega
 have hqd:qt<=d0:=by rw[hd0];split<;>omega
 rw[w3]
 refine⟨⟨aa,aa⟩,fun s' hv=>cJ ?_⟩
 rw[List.drop_drop]
 refine aG.fS hT nv hm 60 hv (h0 _) rfl (iz aa) (fP++[17,18]) agw ah ah ?_
 have w4:u32.wrap (d0:Int)=(d0:Int):=wrap_u32 aa aa
 rw[w4]
 simp only[ag.all,az,bf]
 have nlmul:∀{d:Nat},d<4294967296->nl (V*d*2^(32*j))<=nl V+1+j/\nl (V*d)<=nl V+1:=fun {d} hd=>by
  have h1:V*d<2^(32*(nl V+1)):=by
   rw[iS,Nat.mul_comm]
   exact Nat.mul_lt_mul'' hd hVl
  refine⟨dF.2 ?_,dF.2 h1⟩
  rw[Nat.mul_add,Nat.pow_add]
  exact(Nat.mul_lt_mul_right hTp).2 h1
 have hnd:=nlmul hd32
 refine⟨⟨hnV,aa,aa,aa,aa,aa⟩,fun s' hv=>cJ ?_⟩
 refine ax.iH (i:=2) (y:=part ot [1,1,1,1,1,0,0,0]) ah (fP++[17,18]) 8 (h0 _) (fun d:Nat=>js V s R lq j 7++[.int .u64 (d:Nat),.mag (V*d*2^(32*j))]) (fun _=>dB 7 lq q) (fun _=>rfl) (fun _=>iz aa)
  (fun d=>qt<=d/\d<4294967296) id d0 hv ⟨hqd,hd32⟩ ?_
 rintro d ⟨hqd,hd⟩
 have hnd:=nlmul hd
 have eX:V*d*2^(32*j)=d*(V*2^(32*j)):=by rw[Nat.mul_comm V d,Nat.mul_assoc]
 refine ax.bE hT nv hm 60 (fP++[17,18]) X0 ah ?_
 simp only[ag.all,az,bk,bt,bf,Rn]
 refine⟨⟨aa,aa⟩,fun hb=>?_,fun hb s' hv=>fZ ?_⟩
 ·rw[eX]at hb
  have hqd1:=hqlt d hb
  have hd1:0<d:=aa
  have e1:V*d*2^(32*j)-V*2^(32*j)=V*(d-1)*2^(32*j):=by
   rw[Nat.mul_sub,Nat.mul_one,Nat.sub_mul]
  have e2:V*2^(32*j)<=V*d*2^(32*j):=Nat.mul_le_mul_right _ (by have:=Nat.mul_le_mul_left V hd1;omega)
  refine⟨⟨aa,aa,aa,e2,aa⟩,fun s' hv=>⟨d-1,ec hv ?_ rfl,⟨aa,aa⟩,by simp;omega⟩⟩
  rw[e1,cr aa aa,show(d:Int)-1=((d-1:Nat):Int) by omega]
  rfl
 ·have hXR:d*(V*2^(32*j))<=R:=by rw[eX]at hb;omega
  have hdq:d=qt:=by
   have:d<=qt:=by rw[hqt,Nat.le_div_iff_mul_le hVT];exact hXR
   omega
  show aG P c f187.ntmps (behind ot [1,1,1,1,1,0]) s' _
  refine aG.fS hT nv hm 60 hv (h0 _) rfl (iz aa) fP agq ah ah ?_
  simp only[ag.all,az,bf,Nat.add_zero,beq_iff_eq]
  refine⟨⟨aa,aa⟩,⟨by rw[eX];exact hXR,aa⟩,fun s' hv=>fin s' aa (ec hv ?_ ?_)⟩
  ·have:R-V*d*2^(32*j)=R%(V*2^(32*j)):=by
    rw[eX,hdq,hqt,Nat.mul_comm]
    have:=Nat.div_add_mod R (V*2^(32*j))
    omega
   rw[this]
  ·simp only[dB]
   congr 3
   funext k
   rw[<-hqt,<-hdq]
   exact iA (wrap_u32 aa aa) k
end pieces
end Go.Am.B
namespace Go.Am.B
open Go Go.Am.N AV Proofs.Tryz IntKind
theorem aec {c:Ctx} (h0:∀nx k x,c.k0 k=some x->k<nx) {A B V s lq R0:Nat} (hs:s<32) (hB0:B≠0) (hV:V=B*2^s) (hR0:R0=A*2^s) (hn:2<=nl V) (hnV:nl V<2^39) (hlq:lq<2^39) (hv1:0<aD V (nl V-1)) (hnR:nl R0<2^40) (hlt:R0<V*2^(32*lq))
  {s':aK} (hv:bA fP s'=some (js V s R0 lq ((lq:Int)-1) 7,dB 7 lq fun _=>0)):
  ax P c f187.ntmps (part (aF f187) qe) s' (eo (fun s'=>aG P c f187.ntmps (behind (aF f187) qe) s' (dH c (Fin T f187 (ow A B)))) (dH c (Fin T f187 (ow A B)))):=by
 have hV0:0<V:=Nat.pos_of_ne_zero (g9.1 aa)
 refine ax.iH (i:=0) (y:=qy) ah fP 8 (h0 _) (fun p:Nat×Nat×(Nat->Nat)=>js V s p.2.1 lq ((p.1:Int)-1) 7) (fun p=>dB 7 lq p.2.2) (fun _=>rfl) (fun _=>iz aa)
  (fun p=>p.1<=lq/\(∀i,i<lq->p.2.2 i<2^32)/\(∀i,i<p.1->p.2.2 i=0)/\val lq p.2.2*V+p.2.1=R0/\p.2.1<V*2^(32*p.1)) (fun p=>p.1) (lq,R0,fun _=>0) hv
  ⟨by simp,fun _ _=>by simp,fun _ _=>rfl,?_,hlt⟩ ?_
 ·simp only;rw[val_zero fun _ _=>rfl];simp
 rintro⟨m,R,q⟩ ⟨hm',hq,hq0,hval,hR⟩
 simp only at hm' hq hq0 hval hR
 refine ax.hole [0] ah (show ax P c f187.ntmps (part qy [0]) _ _ from ax.bE hT nv hm 60 fP agr ah ?_)
 simp only[ag.all,bk,bt]
 refine⟨fun hb s' hv=>cJ ?_,fun hb s' hv=>rS (fZ ?_)⟩
 ·obtain⟨j,rfl⟩:∃j,m=j+1:=⟨m-1,aa⟩
  have hv:bA fP s'=some (js V s R lq (j:Nat) 7,dB 7 lq q):=ec hv (by simp only[js,List.cons.injEq,AV.int.injEq,and_true,true_and];omega) rfl
  show aG P c f187.ntmps [part qy [1]] s' _
  refine ax.hole [0] ah ?_
  show ax P c f187.ntmps (part qy [1,0]) s' _
  refine ax.qw (i:=1) (y:=ot) ah ?_
  refine Yg h0 hn hnV aa aa aa hR hv1 hv fun s' hqt hv=>?_
  show aG P c f187.ntmps [part qy [1,1]] s' _
  refine aG.fS hT nv hm 60 hv (h0 8) rfl (iz aa) fP Yf ah ah fun s' hv=>cJ ?_
  refine⟨(j,R%(V*2^(32*j)),cE q j (R/(V*2^(32*j)))),ec hv ?_ rfl,⟨by simp only;omega,je hqt hq,fun i hi=>(gn (by simp only at hi;omega)).trans (hq0 i (by simp only at hi;omega)),?_,Nat.mod_lt _ (Nat.mul_pos hV0 (Nat.two_pow_pos _))⟩,by simp only;omega⟩
  ·rw[wrap_i64 aa aa]
  ·simp only
   rw[tV aa (hq0 j aa),Nat.add_mul]
   have h1:=Nat.div_add_mod R (V*2^(32*j))
   generalize R/(V*2^(32*j))=qt at*
   generalize R%(V*2^(32*j))=r at*
   rw[show qt*2^(32*j)*V=V*2^(32*j)*qt by rw[Nat.mul_comm (V*_),Nat.mul_assoc,Nat.mul_comm (2^_)]]
   omega
 ·have hm0:m=0:=aa
  have hRV:R<V:=by rw[hm0]at hR;simpa using hR
  show aG P c f187.ntmps (behind (aF f187) qe) s' _
  refine aG.kU hT nv hm 60 hv (h0 _) rfl (iz aa) Xr ah ah ?_
  have hS:0<2^s:=Nat.two_pow_pos _
  have hnR2:nl R<=nl R0:=iI aa
  obtain⟨e1,e2⟩:=Kt hval hRV
  simp only[ag.all,az,bf,Nat.add_zero,kq]
  refine⟨⟨gV hq,aa,aa,aa,aa⟩,dX (congrArg AV.mag ?_),dX (congrArg AV.mag ?_),bS (by rw[if_neg hB0]),trivial⟩
  ·rw[<-e1,hR0,hV,Nat.mul_div_mul_right _ _ hS]
  ·rw[if_neg hB0,<-e2,hR0,hV,Nat.mul_mod_mul_right,Nat.mul_div_cancel _ hS]
theorem Rd {A B:Nat} (hA:nl A<2^38) (hB:nl B<2^38) (K:Nat):aS P 187 K [.mag A,.mag B] [] (aJ (ow A B) []):=by
 refine fX hT Ua rfl aV rfl (fun _ c h0=>?_) K []
 have hk0:=Cn h0
 refine ax.hole qe ah (aG.chunk 5 (aG.bE hT nv hm 60 [0,1,4,5,6] YN ah ?_))
 simp only[ag.all,az,beq_iff_eq,beq_eq_false_iff_ne,ne_eq,bk,bt,AN]
 have hnl0:nl B=0↔B=0:=j5
 refine⟨fun hb s' hv=>fW (fW (.inl ?_)),fun hb=>⟨⟨aa,aa⟩,fun hlt=>⟨aa,fun s' hv=>fW (fW (.inl ?_))⟩,fun hge=>⟨fun hf=>?_,fun hf=>⟨fun h1=>?_,fun h1 s' hv=>cJ ?_⟩⟩⟩⟩
 ·have hB0:B=0:=hnl0.1 aa
  exact gX (us:=[.nil,.nil,.int .i64 3]) (.inr rfl) hv ah ⟨by rw[hB0];simpa using lO,by rw[if_pos hB0];exact lO,bS (by simp[hB0]),trivial⟩
 ·have hB0:B≠0:=fun h=>hb (by rw[hnl0.2 h];rfl)
  refine gX (us:=[.nil,.mag A,.int .i64 0]) (.inr rfl) hv ah ⟨?_,dX ?_,bS (by simp[hB0]),trivial⟩
  ·rw[Nat.div_eq_of_lt hlt];exact lO
  ·rw[if_neg hB0,Nat.mod_eq_of_lt hlt]
 ·have hB0:B≠0:=fun h=>hb (by rw[hnl0.2 h];rfl)
  have hA64:A<2^64:=by unfold gG at hf;simpa using hf
  have wQ:gG B=true:=by unfold gG;simp;omega
  rw[if_pos hf,if_pos wQ]
  have hdl:=Nat.div_le_self A B
  have hml:A%B<=A:=Nat.mod_le _ _
  have e1:u64.wrap ((A:Int).tdiv (B:Int))=((A/B:Nat):Int):=by rw[<-Int.ofNat_tdiv,xE,Nat.mod_eq_of_lt aa]
  have e2:(A:Int).tmod (B:Int)=((A%B:Nat):Int):=(Int.ofNat_tmod _ _).symm
  rw[e1,e2]
  have cn:∀{x:Nat},x<2^64->(0:Int)<=(x:Int)/\(x:Int)<2^64:=fun {x} h=>aa
  refine⟨⟨aa,cn (Nat.lt_of_le_of_lt hdl hA64),aa,cn (Nat.lt_of_le_of_lt hml hA64)⟩,fun s' hv=>fW (fW (.inl ?_))⟩
  refine gX (us:=[.mag (A/B),.mag (A%B),.int .i64 0]) (.inr rfl) hv ah ⟨.refl _,dX (by rw[if_neg hB0]),bS (by simp[hB0]),trivial⟩
 ·have hB0:B≠0:=fun h=>hb (by rw[hnl0.2 h];rfl)
  have hl0:aD B 0=B:=by
   have:=gI (N:=B)
   rw[show nl B=1 by omega,val,val]at this
   simpa using this
  have hBlt:B<2^32:=by rw[<-hl0];exact dY
  have hmod:A%B<2^32:=Nat.lt_trans (Nat.mod_lt _ aa) hBlt
  simp only[Int.toNat_zero,hl0,bf]
  have e1:u64.wrap ((A%B:Nat):Int)=((A%B:Nat):Int):=by rw[xE,Nat.mod_eq_of_lt aa]
  rw[e1]
  have cn:∀{x:Nat},x<2^32->(0:Int)<=(x:Int)/\(x:Int)<2^64:=fun {x} h=>aa
  refine⟨⟨aa,aa,aa,aa⟩,cn hmod,fun s' hv=>fW (fW (.inl ?_))⟩
  refine gX (us:=[.mag (A/B),.mag (A%B),.int .i64 0]) (.inr rfl) hv ah ⟨.refl _,dX (by rw[if_neg hB0]),bS (by simp[hB0]),trivial⟩
 have hB0:B≠0:=fun h=>hb (by rw[hnl0.2 h];rfl)
 have hn2:2<=nl B:=by have:=g9.2 hB0;omega
 have hv:=jG (ls:=[0,1]) (l:=[4,5,6]) (vs:=[.mag A,.mag B]) hv rfl rfl
 refine aG.chunk 1 (aG.fS hT nv hm 60 hv (h0 0) rfl trivial [0,1,13] adN ah ah ?_)
 have w1:i64.wrap ((nl B:Int)-1)=((nl B-1:Nat):Int):=fE aa aa
 rw[w1]
 simp only[ag.all,az,bf]
 have e1:nl B-(nl B-1)=1:=aa
 rw[e1]
 have hlB:=dY (N:=B) (i:=nl B-1)
 have htopB:=Bo hB0
 have e2:(val 1 fun i=>numOf (AV.int .u32 (aD B (i+(nl B-1)):Nat)))=aD B (nl B-1):=by
  rw[val,val];simp[numOf]
 rw[e2]
 have hb32:bN (aD B (nl B-1))<=32:=jr.2 hlB
 have w2:i64.wrap (32-((bN (aD B (nl B-1)):Nat):Int))=((32-bN (aD B (nl B-1)):Nat):Int):=fE aa aa
 rw[w2]
 have hnl1:nl (aD B (nl B-1))=1:=by
  have:=g9.2 htopB
  have:nl (aD B (nl B-1))<=1:=dF.2 aa
  omega
 refine⟨⟨aa,fun i hi=>⟨_,dY,rfl⟩,aa,hnl1⟩,fun s' hv=>cJ ?_⟩
 obtain⟨s,hs⟩:∃s,s=32-bN (aD B (nl B-1)):=⟨_,rfl⟩
 rw[<-hs]at hv
 obtain⟨hs32,hnV,hnorm,hVlt⟩:=MR hB0 hs
 rw[List.drop_drop]
 refine aG.fS hT nv hm 60 hv (h0 0) rfl trivial fP abg ah ah ?_
 simp only[ag.all,az,bf]
 obtain⟨V,hV⟩:∃V,V=B*2^s:=⟨_,rfl⟩
 obtain⟨R0,hR0⟩:∃R0,R0=A*2^s:=⟨_,rfl⟩
 rw[<-hV,<-hR0]
 rw[<-hV]at hnV hnorm hVlt
 have hnR1:nl R0<=nl A+1:=dF.2 (by
  rw[hR0,show 32*(nl A+1)=32*nl A+32 by omega,Nat.pow_add]
  have h1:2^s<=2^32:=Nat.pow_le_pow_right aa aa
  exact Nat.lt_of_lt_of_le ((Nat.mul_lt_mul_right (Nat.two_pow_pos s)).2 oD) (Nat.mul_le_mul_left _ h1))
 have hnR2:nl V<=nl R0:=iI (by rw[hV,hR0];exact Nat.mul_le_mul_right _ aa)
 obtain⟨lq,hlq⟩:∃lq,lq=nl R0-nl V+1:=⟨_,rfl⟩
 have w3:i64.wrap ((nl R0:Int)-(nl V:Int))=((lq:Nat):Int)-1:=by rw[wrap_i64 aa aa];omega
 have w4:i64.wrap (((lq:Nat):Int)-1+1)=((lq:Nat):Int):=fE aa aa
 rw[w3,w4]
 simp only[bf]
 refine⟨⟨aa,aa,aa,aa,aa,aa⟩,aa,fun s' hv=>cJ ?_⟩
 refine ax.ja (dL (vs:=js V s R0 lq ((lq:Int)-1) 7) (ps:=dB 7 lq fun _=>0) (nx:=8) [(7,65536)] hv hk0 rfl
  ⟨aL,aL,aL,aL,⟨rfl,cP rfl rfl rfl⟩,aL,trivial⟩ ⟨⟨_,_,rfl,rfl,gi rfl fun j _=>rfl⟩,trivial⟩) ?_
 have hv1:0<aD V (nl V-1):=by rw[hnV];omega
 refine aec h0 hs32 hB0 hV hR0 aa aa aa hv1 aa ?_ rfl
 have hVge:2^(32*(nl V-1))<=V:=by
  rcases Nat.lt_or_ge V (2^(32*(nl V-1)))with h|h
  ·have:=dF.2 h;omega
  ·exact h
 have h1:=Nat.mul_le_mul_right (2^(32*lq)) hVge
 rw[<-Nat.pow_add,show 32*(nl V-1)+32*lq=32*nl R0 by omega]at h1
 exact Nat.lt_of_lt_of_le oD h1
def OM:Spec:=nO (fun A B=>ow A B) fun A B=>[nl A<2^38,nl B<2^38]
theorem Iz:aU P OM 187:=qE fun h=>Rd h.1 h.2
theorem Xu:aW 186 f186:=aT func186
def pS:aX:=[(185,ud),(227,Gr),(190,wY),(187,nO (fun A B=>ow A B) fun A B=>[nl A<2^38,nl B<2^38])]
abbrev xh:Code:=part (aF f186) [1,1,0,0,0]
abbrev yM:Code:=part xh [1,0]
abbrev ue:Code:=part yM [1,1,0,1,0]
abbrev Od:Code:=part ue [0,0,0]
theorem s8:bq P pS:=aI zD (aI LP (aI Cq (aI Iz bB)))
theorem agK {A B:Nat}:aH T pS [] 60 [0,1] (before (aF f186) [1,1,0]) ⟨aQ 0 [.mag A,.mag B],[],0⟩=
  some (ag.aj [nl A<2^40,nl B<2^40] (ag.leaf aq.normal ([mag A,mag B],[]))):=ah
theorem Ww {A B:Nat}:aH T pS [18] 60 [0,1] [part xh [0]] ⟨aA [0,1] [.mag A,.mag B],[],0⟩=
  some (ag.fork (decide ((↑(nl B):Int)>0)) (ag.leaf aq.normal ([mag A,mag B],[])) (ag.leaf (aq.exit 0) ([mag A,mag B],[]))):=ah
theorem acI {A B:Nat}:aH T pS [30,32] 60 [0,1,5,7,32] (before yM [1,1,0,1]) ⟨aA [0,1] [.mag A,.mag B],[],0⟩=
  let c2:AV:=int .u64 (↑(if gG B=true then B else 0):Int);let c1:AV:=int .u64 (↑(if gG A=true then A else 0):Int);some (ag.fork (gG A) (ag.aj [gG A=true] (ag.leaf aq.normal ([mag A,mag B,c1,c2,AV.bool (bif true then gG B else false)],[]))) (ag.aj [gG A=false] (ag.leaf aq.normal ([mag A,mag B,c1,c2,AV.bool false],[])))):=ah
theorem Uw {x y:Nat}:aH T pS [34] 60 [5,7] [Od] ⟨aA [5,7] [.int .u64 x,.int .u64 y],[],0⟩=
  let c1:Int:=(↑y:Int);some (ag.fork (c1 !=(0:Int)) (ag.aj [c1≠(0:Int)] (ag.leaf aq.normal ([int .u64 c1,int .u64 ((↑x:Int).tmod c1)],[]))) (ag.leaf (aq.exit 2) ([int .u64 (↑x:Int),int .u64 c1],[]))):=ah
theorem adH {x y:Nat}:aH T pS [] 60 [4] [part ue [1]] ⟨aA [5,7] [.int .u64 x,.int .u64 y],[],0⟩=
  some (ag.aj [(0:Int)<=(↑x:Int)/\(↑x:Int)<2^64] (ag.leaf aq.ret ([mag (↑x:Int).toNat],[]))):=ah
theorem RO {A B:Nat}:aH T pS [] 60 [0,1] (behind yM [1,1,0,1]) ⟨aA [0,1] [.mag A,.mag B],[],0⟩=
  some (ag.aj [nl A<2^38,nl B<2^38] (ag.leaf aq.normal ([mag B,mag (if B=0 then 0 else A%B)],[]))):=ah
theorem aft {A B:Nat}:cy T pS [] 60 f186 (behind (aF f186) [1,1,0]) ⟨aA [0,1] [.mag A,.mag B],[],0⟩=
  some (ag.leaf aq.ret [mag A]):=ah
theorem adC {s:aK} {ls l:List Nat} {vs us:List AV} {os:aC} (hv:bA (l++ls) s=some (us++vs,os)) (hl:us.length=l.length) (hk:bH us=[]):bA ls s=some (vs,os):=by
 unfold bA at hv ⊢
 simp only[ay,Prod.mk.injEq,C4]at hv ⊢
 obtain⟨h1,h2⟩:=hv
 obtain⟨h3,h4⟩:=List.append_inj h1 (by rw[Dy,hl])
 subst h4
 refine⟨rfl,?_⟩
 rw[<-h2,h3,Nw,hk,List.nil_append]
theorem SP {A B:Nat} (hA:nl A<2^38) (hB:nl B<2^38) (K:Nat):aS P 186 K [.mag A,.mag B] [] (aJ (.mag (Nat.gcd A B)) []):=by
 refine fX hT Xu rfl aV rfl (fun _ c h0=>?_) K []
 have hk0:=Cn h0
 refine ax.hole [1,1,0] ah (aG.bE hT s8 hm 60 [0,1] agK ah ?_)
 simp only[ag.all,az]
 refine⟨⟨aa,aa⟩,fun s' hv=>cJ ?_⟩
 refine ax.iH (i:=0) (y:=xh) ah [0,1] 0 (h0 0) (fun p:Nat×Nat=>[.mag p.1,.mag p.2]) (fun _=>[]) (fun _=>rfl) (fun _=>trivial)
  (fun p=>Nat.gcd p.1 p.2=Nat.gcd A B/\nl p.1<2^38/\nl p.2<2^38) (fun p=>p.2) (A,B) hv ⟨rfl,hA,hB⟩ ?_
 rintro⟨X,Y⟩ ⟨hg,hX,hY⟩
 simp only at hg hX hY
 have hstep:∀{X Y:Nat},Y≠0->Nat.gcd Y (X%Y)=Nat.gcd X Y:=fun {X Y} _=>by rw[Nat.gcd_comm X Y,Nat.gcd_rec Y X,Nat.gcd_comm]
 refine ax.hole [0] ah (show ax P c f186.ntmps (part xh [0]) _ _ from ax.bE hT s8 hm 60 [0,1] Ww ah ?_)
 simp only[ag.all,bk,bt]
 refine⟨fun hb s' hv=>cJ ?_,fun hb s' hv=>rS (fZ ?_)⟩
 ·have hY0:Y≠0:=g9.1 aa
  have hlt:=Nat.mod_lt X (show 0<Y by omega)
  show ax P c f186.ntmps (part xh [1]) s' _
  refine ax.qw (i:=1) (y:=yM) ah ?_
  refine ax.hole [1,1,0,1] ah (aG.fS hT s8 hm 60 hv (h0 0) rfl trivial [0,1,5,7,32] acI ah ah ?_)
  simp only[ag.all,az]
  have fin:∀{s':aK} {Q:aq->aK->Prop},bA [0,1] s'=some ([.mag X,.mag Y],[])->(∀s',bA [0,1] s'=some ([.mag Y,.mag (X%Y)],[])->Q .normal s')->aG P c f186.ntmps (behind yM [1,1,0,1]) s' Q:=by
   intro s' Q hv h
   refine aG.fS hT s8 hm 60 hv (h0 0) rfl trivial [0,1] RO ah ah ?_
   simp only[ag.all,az]
   exact⟨⟨hX,hY⟩,fun s' hv=>h s' (ec hv (by rw[if_neg hY0]) rfl)⟩
  have good:∀{s':aK},bA [0,1] s'=some ([.mag Y,.mag (X%Y)],[])->∃k:Nat×Nat,bA [0,1] s'=some ([.mag k.1,.mag k.2],[])/\(Nat.gcd k.1 k.2=Nat.gcd A B/\nl k.1<2^38/\nl k.2<2^38)/\k.2<Y:=
   fun hv=>⟨(Y,X%Y),hv,⟨by rw[<-hg];exact hstep hY0,hY,Nat.lt_of_le_of_lt (iI (Nat.le_of_lt hlt)) hY⟩,hlt⟩
  refine⟨fun hf=>⟨hf,fun s' hv=>cJ ?_⟩,fun hf=>⟨hf,fun s' hv=>cJ ?_⟩⟩
  ·refine ax.cond (b:=.tmp 32) (t:=gG Y) (x:=ue) (y:=.skip) (yP hv rfl rfl) (fun hf2=>?_) (fun _=>ax.skip ?_)
   ·rw[if_pos hf,if_pos hf2]at hv
    have hX64:X<2^64:=by unfold gG at hf;simpa using hf
    have hY64:Y<2^64:=by unfold gG at hf2;simpa using hf2
    have hv:=adC (l:=[0,1]) (us:=[.mag X,.mag Y]) (jG (ls:=[0,1,5,7]) (vs:=[.mag X,.mag Y,.int .u64 (X:Nat),.int .u64 (Y:Nat)]) hv rfl rfl) rfl rfl
    refine ax.hole [0] ah ?_
    show ax P c f186.ntmps (part ue [0]) s' _
    refine ax.iH (i:=2) (y:=Od) ah [5,7] 0 (h0 0) (fun p:Nat×Nat=>[.int .u64 (p.1:Nat),.int .u64 (p.2:Nat)]) (fun _=>[]) (fun _=>rfl) (fun _=>trivial)
     (fun p=>Nat.gcd p.1 p.2=Nat.gcd A B/\p.1<2^64/\p.2<2^64) (fun p=>p.2) (X,Y) hv ⟨hg,hX64,hY64⟩ ?_
    rintro⟨x,y⟩ ⟨hg,hx,hy⟩
    simp only at hg hx hy
    refine ax.bE hT s8 hm 60 [5,7] Uw ah ?_
    simp only[ag.all,az,bne_iff_ne,ne_eq,bne_eq_false_iff_eq]
    refine⟨fun hb=>⟨hb,fun s' hv=>cJ ?_⟩,fun hb s' hv=>fZ ?_⟩
    ·have hy0:y≠0:=aa
     have hlt:=Nat.mod_lt x (show 0<y by omega)
     exact⟨(y,x%y),ec hv (by rw[<-Int.ofNat_tmod]) rfl,⟨by rw[<-hg];exact hstep hy0,hy,by simp only;omega⟩,hlt⟩
    ·have hy0:y=0:=aa
     show aG P c f186.ntmps [part ue [1]] s' _
     refine aG.fS hT s8 hm 60 hv (h0 0) rfl trivial [4] adH ah ah ?_
     simp only[ag.all,az,bf]
     refine⟨aa,fun s' hv=>?_⟩
     rw[show x=Nat.gcd A B by rw[<-hg,hy0,Nat.gcd_zero_right]]at hv
     exact(.inl (gX (us:=[.mag (Nat.gcd A B)]) (.inr rfl) hv ah (dX rfl)))
   ·exact cJ (fin (jG (ls:=[0,1]) (vs:=[.mag X,.mag Y]) hv rfl rfl) fun s' hv=>good hv)
  ·refine ax.cond (b:=.tmp 32) (t:=false) (x:=ue) (y:=.skip) (yP hv rfl rfl) (fun h=>by simp at h) (fun _=>ax.skip ?_)
   exact cJ (fin (jG (ls:=[0,1]) (vs:=[.mag X,.mag Y]) hv rfl rfl) fun s' hv=>good hv)
 ·have hY0:Y=0:=j5.1 aa
  show aG P c f186.ntmps (behind (aF f186) [1,1,0]) s' _
  refine aG.kU hT s8 hm 60 hv (h0 0) rfl trivial aft ah ah (dX ?_)
  rw[<-hg,hY0,Nat.gcd_zero_right]
def NL:Spec:=nO (fun A B=>.mag (Nat.gcd A B)) fun A B=>[nl A<2^38,nl B<2^38]
theorem XE:aU P NL 186:=qE fun h=>SP h.1 h.2
theorem ac3:aW 123 f123:=aT func123
theorem aiX:aW 124 f124:=aT func124
theorem aio:aW 132 f132:=aT func132
theorem aiJ:aW 83 f83:=aT func83
theorem Xv:aW 156 f156:=aT func156
theorem Zi:aW 121 f121:=aT func121
def GE:aX:=[(185,ud),(186,NL),(187,OM),(190,wY),(126,zA)]
theorem vG:bq P GE:=aI zD (aI XE (aI Iz (aI Cq (aI AE bB))))
theorem QO {q:Rat} {n:Nat}:bU T GE [6] 60 f123 (aF f123) ⟨aQ 0 [.rat q n],[],0⟩=
  let c1:Nat:=if q.den=1 then 0 else q.den;some (ag.aj [(0:Nat)<1] (ag.fork ((↑(nl c1):Int)==0) (ag.aj [(1:Nat)*1<=2^24] (ag.leaf aq.ret [ak 1 1 fun i=>nth [int .u32 (1:Int)] (int .u32 (0:Int)) (i+0)])) (ag.aj [(0:Nat)<1] (ag.leaf aq.ret [mag c1])))):=ah
theorem ah7 {b:Bool} {N D:Nat}:bU T GE [14,22,27,45,50] 60 f124 (aF f124) ⟨aQ 0 [.bool b,.mag N,.mag D],[],0⟩=
  let c14:Prop:=(0:Int)<=0;let c13:Nat:=N.gcd D;let c12:Bool:=(↑(nl D):Int)==1;let c6:Nat:=Int.toNat (0:Int);let c4:Nat:=2^38;let c3:List Prop:=[(0:Nat)<1];let c11:Bool:=(↑(nl c13):Int)!=1;let c10:ag (List AV):=ag.aj c3 (ag.aj c3 (ag.leaf aq.ret [agg [AV.bool b,mag N,nil]]));let c9:ag (List AV):=ag.aj c3 (ag.aj c3 (ag.leaf aq.ret [agg [AV.bool b,mag N,mag D]]));let c8:Bool:=(↑(nl (D/c13)):Int)==1;let c7:ag (List AV):=ag.aj c3 (ag.aj c3 (ag.leaf aq.ret [agg [AV.bool b,mag (N/c13),nil]]));let c5:ag (List AV):=ag.aj c3 (ag.aj c3 (ag.leaf aq.ret [agg [AV.bool b,mag (N/c13),mag (D/c13)]]));let c2:ag (List AV):=ag.fork c12 (ag.aj [c12=true,c14/\c6<nl D] (ag.fork (bif true then(↑(aD D c6):Int)==1 else false) c10 c9)) (ag.aj [c12=false] (ag.fork false c10 c9));let c1:ag (List AV):=ag.aj [nl N<c4,nl c13<c4] (ag.aj [nl D<c4,nl c13<c4] (ag.fork c8 (ag.aj [c8=true,c14/\c6<nl (D/c13)] (ag.fork (bif true then(↑(aD (D/c13) c6):Int)==1 else false) c7 c5)) (ag.aj [c8=false] (ag.fork false c7 c5))));some (ag.aj [nl N<2^40,nl D<2^40] (ag.fork ((↑(nl N):Int)==0) (ag.aj c3 (ag.aj c3 (ag.leaf aq.ret [agg [AV.bool false,mag 0,mag 0]]))) (ag.aj [nl N<c4,nl D<c4] (ag.fork c11 (ag.aj [c11=true] (ag.fork true c1 c2)) (ag.aj [c11=false,c14/\c6<nl c13] (ag.fork (bif false then true else(↑(aD c13 c6):Int)!=1) c1 c2)))))):=ah
theorem RM {n:Int}:bU T GE [5] 60 f132 (aF f132) ⟨aQ 0 [.int .i64 n],[],0⟩=
  let c2:Int:=u64.wrap n;let c1:Int:=u64.wrap (u64.wrap (i64.wrap ((0:Int)-i64.wrap (n+1)))+1);some (ag.fork (decide (n<0)) (ag.aj [(0:Int)<=c1/\c1<2^64] (ag.leaf aq.ret [mag c1.toNat,AV.bool true])) (ag.aj [(0:Int)<=c2/\c2<2^64] (ag.leaf aq.ret [mag c2.toNat,AV.bool false]))):=ah
theorem abE {q r:Rat} {n m:Nat}:bU T GE [10,18] 60 f83 (aF f83) ⟨aQ 0 [.rat q n,.rat r m],[],0⟩=
  let c8:Nat:=if r.den=1 then 0 else r.den;let c7:Nat:=if q.den=1 then 0 else q.den;let c6:Nat:=2^40;let c5:Bool:=bif true then cZ q.num.natAbs r.num.natAbs==0 else false;let c3:Bool:=decide (q<0)==decide (r<0);let c1:Prop:=0<1;let c4:List Prop:=[c1,c1,nl c7<c6,nl c8<c6];let c2:ag (List AV):=ag.leaf aq.ret [AV.bool (bif true then cZ c7 c8==0 else false)];some (ag.fork c3 (ag.fork c5 (ag.aj (c1::c1::(c3=true)::c1::c1::(nl q.num.natAbs<c6)::(nl r.num.natAbs<c6)::(c5=true)::c4) c2) (ag.aj [c1,c1,c3=true,c1,c1,nl q.num.natAbs<c6,nl r.num.natAbs<c6,c5=false] (ag.leaf aq.ret [AV.bool false]))) (ag.fork false (ag.aj (c1::c1::(c3=false)::(false=true)::c4) c2) (ag.aj [c1,c1,c3=false,false=false] (ag.leaf aq.ret [AV.bool false])))):=ah
theorem af7 {q:Rat} {n:Nat}:bU T GE [6,8] 60 f156 (aF f156) ⟨aQ 0 [.rat q n],[],0⟩=
  some (ag.aj [(0:Nat)<1] (ag.fork ((↑(nl q.num.natAbs):Int)==0) (ag.leaf aq.ret [int .i64 (0:Int)]) (ag.aj [(0:Nat)<1] (ag.fork (decide (q<0)) (ag.leaf aq.ret [int .i64 (-1:Int)]) (ag.leaf aq.ret [int .i64 (1:Int)]))))):=ah
theorem Ul {q:Rat} {n:Nat}:bU T GE [6] 60 f121 (aF f121) ⟨aQ 0 [.rat q n],[],0⟩=
  let c4:Int:=(↑(nl q.num.natAbs):Int);let c3:Bool:=!decide (q<0);let c2:List AV:=[mag q.num.natAbs,mag (if q.den=1 then 0 else q.den)];let c1:Prop:=0<1;some (ag.fork c3 (ag.aj [c1,c3=true,c1,c1] (ag.aj [c1,c1] (ag.aj [c1] (ag.leaf aq.ret [agg (AV.bool (bif true then decide (c4>0)else false)::c2)])))) (ag.aj [c1,c3=false,c1] (ag.aj [c1,c1] (ag.aj [c1] (ag.leaf aq.ret [agg (AV.bool false::c2)]))))):=ah
theorem aco {q:Rat} {n:Nat} (K:Nat) (pre:aC):aS P 123 K [.rat q n] pre (aJ (.mag q.den) []):=by
 refine bX hT vG hm ac3 rfl aV rfl 60 QO (fun _=>?_) K pre
 simp only[ag.all,az,beq_iff_eq,beq_eq_false_iff_ne,ne_eq]
 refine⟨aa,fun hb=>⟨aa,?_⟩,fun hb=>⟨aa,dX ?_⟩⟩
 ·have h0:=q.den_nz
  have:(if q.den=1 then 0 else q.den)=0:=j5.1 aa
  have h1:q.den=1:=by split at this;assumption;exact absurd this h0
  rw[h1]
  exact mR (by decide) fun i hi=>by rw[show i=0 by omega];exact congrArg (AV.int .u32) (show(1:Int)=((aD 1 0:Nat):Int) by decide)
 ·have:q.den≠1:=fun h=>hb (by rw[if_pos h];rfl)
  rw[if_neg this]
theorem ae1 {b:Bool} {N D:Nat} (hN:nl N<2^38) (hD:nl D<2^38) (hD0:D≠0) (K:Nat) (pre:aC):aS P 124 K [.bool b,.mag N,.mag D] pre (aJ (.rat (sQ b N D) (cW (sQ b N D))) []):=by
 refine bX hT vG hm aiX rfl aV rfl 60 ah7 (fun _=>?_) K pre
 have hz:sQ b N D=0->bh (.agg [.bool false,.mag 0,.mag 0]) (.rat (sQ b N D) (cW (sQ b N D))):=fun h=>by
  rw[h];exact mM
 simp only[ag.all,az,beq_iff_eq,beq_eq_false_iff_ne,ne_eq,bne_iff_ne,bne_eq_false_iff_eq,Int.toNat_zero]
 refine⟨⟨aa,aa⟩,fun hb=>⟨aa,aa,hz ?_⟩,fun hb=>?_⟩
 ·rw[j5.1 (show nl N=0 by omega),Gv]
 have hN0:N≠0:=fun h=>hb (by rw[j5.2 h];rfl)
 have hg:nl (Nat.gcd N D)<2^38:=Nat.lt_of_le_of_lt (iI (Nat.gcd_le_left _ aa)) hN
 have hg0:0<Nat.gcd N D:=Nat.gcd_pos_of_pos_left _ aa
 have hl:∀{Y:Nat},nl Y=1->aD Y 0=Y:=fun {Y} h=>by
  have:=gI (N:=Y)
  rw[h,val,val]at this
  simpa using this
 have h1:∀{X Y:Nat},X=N/Nat.gcd N D->Y=D/Nat.gcd N D->Y≠1->bh (.agg [.bool b,.mag X,.mag Y]) (.rat (sQ b N D) (cW (sQ b N D))):=fun eX eY h=>vK hN0 hD0 eX (by rw[<-eY,if_neg h]) wW
 have h2:∀{X Y:Nat},X=N/Nat.gcd N D->Y=D/Nat.gcd N D->Y=1->bh (.agg [.bool b,.mag X,.nil]) (.rat (sQ b N D) (cW (sQ b N D))):=fun eX eY h=>KF.trans (vK hN0 hD0 eX (by rw[<-eY,if_pos h]) wW)
 have i1:∀{Y:Nat},(nl Y:Int)=1->(bif true then((aD Y 0:Nat):Int)==1 else false)=true->Y=1:=fun {Y} h hc=>by
  have:=jQ hc
  rw[hl aa]at this
  have:=eq_of_beq this
  omega
 have i2:∀{Y:Nat},(nl Y:Int)=1->(bif true then((aD Y 0:Nat):Int)==1 else false)=false->Y≠1:=fun {Y} h hc h1=>by
  have:=jQ hc
  rw[hl aa,h1]at this
  simp at this
 have i3:∀{Y:Nat},¬(nl Y:Int)=1->Y≠1:=fun {Y} h h1=>h (by rw[h1];decide)
 have g1:(nl (Nat.gcd N D):Int)=1->(bif false then true else((aD (Nat.gcd N D) 0:Nat):Int)!=1)=false->Nat.gcd N D=1:=fun h hc=>by
  have:=jb hc
  rw[hl aa]at this
  simp at this
  omega
 refine⟨⟨hN,hD⟩,fun hb=>⟨hb,fun _=>⟨⟨hN,hg⟩,⟨hD,hg⟩,?_⟩,fun h=>by simp at h⟩,fun hb=>⟨⟨hb,aa,aa⟩,fun hc=>⟨⟨hN,hg⟩,⟨hD,hg⟩,?_⟩,fun hc=>?_⟩⟩
 ·exact⟨fun hb=>⟨⟨hb,aa,aa⟩,fun hc=>⟨aa,aa,h2 rfl rfl (i1 hb hc)⟩,fun hc=>⟨aa,aa,h1 rfl rfl (i2 hb hc)⟩⟩,fun hb=>⟨hb,fun h=>by simp at h,fun _=>⟨aa,aa,h1 rfl rfl (i3 hb)⟩⟩⟩
 ·exact⟨fun hb=>⟨⟨hb,aa,aa⟩,fun hc=>⟨aa,aa,h2 rfl rfl (i1 hb hc)⟩,fun hc=>⟨aa,aa,h1 rfl rfl (i2 hb hc)⟩⟩,fun hb=>⟨hb,fun h=>by simp at h,fun _=>⟨aa,aa,h1 rfl rfl (i3 hb)⟩⟩⟩
 ·have e:=g1 hb hc
  have eN:N=N/Nat.gcd N D:=by rw[e,Nat.div_one]
  have eD:D=D/Nat.gcd N D:=by rw[e,Nat.div_one]
  exact⟨fun hb=>⟨⟨hb,aa,aa⟩,fun hc=>⟨aa,aa,h2 eN eD (i1 hb hc)⟩,fun hc=>⟨aa,aa,h1 eN eD (i2 hb hc)⟩⟩,fun hb=>⟨hb,fun h=>by simp at h,fun _=>⟨aa,aa,h1 eN eD (i3 hb)⟩⟩⟩
theorem YQ {n:Int} (h1:-2^63<=n) (h2:n<2^63) (K:Nat) (pre:aC):aS P 132 K [.int .i64 n] pre (aJ (.tuple [.mag n.natAbs,.bool (decide (n<0))]) []):=by
 refine bX hT vG hm aio rfl aV rfl 60 RM (fun _=>?_) K pre
 simp only[ag.all,az,bk,bt]
 refine⟨fun hb=>?_,fun hb=>?_⟩
 ·have e:i64.wrap (n+1)=n+1:=wrap_i64 aa aa
  have e1:i64.wrap (0-(n+1))=-n-1:=by rw[wrap_i64 aa aa];omega
  have e2:u64.wrap (-n-1)=-n-1:=cr aa aa
  have e3:u64.wrap (-n-1+1)=((n.natAbs:Nat):Int):=by rw[cr aa aa];omega
  rw[e,e1,e2,e3]
  exact⟨aa,dX (by rw[bf]),fF (by simp[hb]),trivial⟩
 ·have e3:u64.wrap n=((n.natAbs:Nat):Int):=by rw[cr aa aa];omega
  rw[e3]
  exact⟨aa,dX (by rw[bf]),fF (by simp[hb]),trivial⟩
theorem Cp {a b:Nat}:cZ a b=0↔a=b:=by unfold cZ;split<;>(try split)<;>omega
theorem HM {q r:Rat} {n m:Nat} (hn:n<2^44) (hm':m<2^44) (K:Nat) (pre:aC):aS P 83 K [.rat q n,.rat r m] pre (aJ (.bool (decide (q=r))) []):=by
 refine kD fun⟨hs1,hs2,_⟩=>?_
 obtain⟨a1,a2,a3⟩:=Sz.jJ hs1 hn
 obtain⟨b1,b2,b3⟩:=Sz.jJ hs2 hm'
 refine bX hT vG hm aiJ rfl aV rfl 60 abE (fun _=>?_) K pre
 simp only[ag.all,az]
 refine⟨fun hb=>⟨fun hc=>⟨⟨aa,aa,hb,aa,aa,a1,b1,hc,aa,aa,a3,b3⟩,fF ?_⟩,fun hc=>⟨⟨aa,aa,hb,aa,aa,a1,b1,hc⟩,fF ?_⟩⟩,fun hb=>⟨fun h=>by simp at h,fun _=>⟨⟨aa,aa,hb,trivial⟩,fF ?_⟩⟩⟩
 ·have h1:=eq_of_beq hb
  have h2:=Cp.1 (eq_of_beq (jQ hc))
  rw[cond_true]
  exact(decide_eq_decide (p:=_=0) (q:=q=r)).2 ⟨fun h=>qA.2 ⟨h1,h2,Cp.1 h⟩,fun h=>Cp.2 (qA.1 h).2.2⟩
 ·have h2:=jQ hc
  refine(decide_eq_false fun h=>?_).symm
  rw[Cp.2 (qA.1 h).2.1]at h2
  simp at h2
 ·refine(decide_eq_false fun h=>?_).symm
  rw[(qA.1 h).1]at hb
  simp at hb
theorem Fy {q:Rat} {n:Nat} (K:Nat) (pre:aC):aS P 156 K [.rat q n] pre (aJ (.int .i64 (fQ q)) []):=by
 refine bX hT vG hm Xv rfl aV rfl 60 af7 (fun _=>?_) K pre
 simp only[ag.all,az,beq_iff_eq,beq_eq_false_iff_ne,ne_eq]
 refine⟨aa,fun hb=>bS ?_,fun hb=>⟨aa,fun hc=>bS ?_,fun hc=>bS ?_⟩⟩
 ·have h0:q=0:=pW.1 (j5.1 aa)
  subst h0
  rfl
 ·have:=of_decide_eq_true hc
  unfold fQ;rw[if_pos this]
 ·have h1:=of_decide_eq_false hc
  have h0:q≠0:=fun h=>hb (by rw[h];rfl)
  unfold fQ;rw[if_neg h1,if_pos (MX h0 h1)]
theorem Y3 {q:Rat} {n:Nat} (K:Nat) (pre:aC):aS P 121 K [.rat q n] pre (aJ (.rat (-q) n) []):=by
 refine kD fun⟨hs1,_⟩=>?_
 have hs1:Sz q n:=hs1
 have hs2:=hs1.neg
 have e1:(-q).num.natAbs=q.num.natAbs:=by rw[Rat.neg_num,Int.natAbs_neg]
 have e2:(-q).den=q.den:=Rat.neg_den q
 refine bX hT vG hm Zi rfl aV rfl 60 Ul (fun _=>?_) K pre
 simp only[ag.all,az]
 refine⟨fun hb=>⟨⟨aa,hb,aa,aa⟩,⟨aa,aa⟩,aa,tI hs2 ?_ e1.symm (by rw[e2])⟩,fun hb=>⟨⟨aa,hb,aa⟩,⟨aa,aa⟩,aa,tI hs2 ?_ e1.symm (by rw[e2])⟩⟩
 ·have hq:¬q<0:=by simpa using hb
  rw[cond_true]
  have h1:¬q.num<0:=fun h=>hq (jv.2 h)
  exact((decide_eq_decide (p:=-q<0) (q:=(nl q.num.natAbs:Int)>0)).2 (by
   rw[jv,Rat.neg_num]
   have:=g9 (N:=q.num.natAbs)
   omega)).symm
 ·have hq:q<0:=by simpa using hb
  have:=jv.1 hq
  exact(decide_eq_false (p:=-q<0) (by rw[jv,Rat.neg_num];omega)).symm
def AJ (g:Rat->Nat->dI):Spec:=bY fun l=>match l with
 |[.rat q n]=>some (g q n)
 |_=>none
theorem Hj {f:FuncId} {g:Rat->Nat->dI} (h:∀{q:Rat} {n:Nat} K,aS P f K [.rat q n] [] (g q n)):aU P (AJ g) f:=by
 refine cF fun K args r hk hs _=>?_
 split at hs
 ·simp only[ay]at hs
  subst hs
  exact h K
 ·simp at hs
def Ns:Spec:=AJ fun q _=>aJ (.mag q.den) []
theorem U0:aU P Ns 123:=Hj fun K=>aco K []
def Ma:Spec:=AJ fun q _=>aJ (.int .i64 (fQ q)) []
theorem aes:aU P Ma 156:=Hj fun K=>Fy K []
def G0:Spec:=AJ fun q n=>aJ (.rat (-q) n) []
theorem OO:aU P G0 121:=Hj fun K=>Y3 K []
def Ng:Spec:=bY fun l=>match l with
 |[.int .i64 n]=>some (aJ (.tuple [.mag n.natAbs,.bool (decide (n<0))]) [-2^63<=n,n<2^63])
 |_=>none
theorem adA:aU P Ng 132:=by
 refine cF fun K args r hk hs _=>?_
 split at hs
 ·simp only[ay]at hs
  subst hs
  exact fun need=>YQ need.1 need.2 K [] trivial
 ·simp at hs
def Jc:Spec:=bY fun l=>match l with
 |[.bool b,x,y]=>match jt x,jt y with
  |some N,some D=>some (aJ (.rat (sQ b N D) (cW (sQ b N D))) [nl N<2^38,nl D<2^38,D≠0])
  |_,_=>none
 |_=>none
theorem Uc:aU P Jc 124:=by
 refine cF fun K args r hk hs _=>?_
 split at hs
 ·split at hs
  ·rename_i N D h1 h2
   simp only[ay]at hs
   subst hs
   exact fun need=>iD (ae1 need.1 need.2.1 need.2.2 K []) hk ⟨.refl _,mE h1,mE h2,trivial⟩ [] trivial
  ·simp at hs
 ·simp at hs
theorem YE:aW 44 f44:=aT func44
theorem Vi:aW 43 f43:=aT func43
theorem adk:aW 58 f58:=aT func58
theorem abV:aW 82 f82:=aT func82
theorem RZ:aW 128 f128:=aT func128
theorem Vg:aW 45 f45:=aT func45
theorem Rq:aW 51 f51:=aT func51
def uP:aX:=[(123,Ns),(122,Ho),(125,JI),(127,Qt),(126,zA),(124,Jc),(156,Ma),(121,G0),(132,Ng)]
def K1:Spec:=bY fun l=>match l with
 |[.int .i64 x,.int .i64 y]=>some (aJ (.tuple [.rat ((x:Rat)/(y:Rat)) 64,.int .i64 (if y=0 then 3 else 0)]) [-2^63<=x,x<2^63,-2^63<=y,y<2^63])
 |_=>none
def K0:Spec:=bY fun l=>match l with
 |[.rat q n,.rat r m]=>some (aJ (.rat (q+r) (n+m+1)) [n<2^41,m<2^41])
 |_=>none
def EW:aX:=[(44,K0),(121,G0),(128,K1)]
theorem xd:bq P uP:=aI U0 (aI LF (aI Yj (aI Ra (aI AE (aI Uc (aI aes (aI OO (aI adA bB))))))))
theorem UP {q r:Rat} {n m:Nat}:bU T uP [15,20,41,52] 60 f44 (aF f44) ⟨aQ 0 [.rat q n,.rat r m],[],0⟩=
  let c10:Bool:=decide (r<0);let c9:Nat:=2^38;let c8:Nat:=q.den*r.den;let c7:Bool:=decide (q<0);let c6:Nat:=2^39;let c5:Nat:=2^40;let c3:Nat:=q.num.natAbs*r.den;let c2:Nat:=r.num.natAbs*q.den;let c1:Prop:=0<1;let c4:List Prop:=[nl c8<c9,c8≠0,c1];some (ag.aj [c1] (ag.fork ((↑(nl q.num.natAbs):Int)==0) (ag.aj [c1,c1] (ag.aj [c1] (ag.leaf aq.ret [rat r m]))) (ag.aj [c1] (ag.fork ((↑(nl r.num.natAbs):Int)==0) (ag.aj [c1,c1] (ag.aj [c1] (ag.leaf aq.ret [rat q n]))) (ag.aj [c1,c1,nl q.num.natAbs<c6,nl r.den<c6,c1,c1,nl r.num.natAbs<c6,nl q.den<c6] (ag.aj [c1,c1,nl q.den<c6,nl r.den<c6] (ag.aj [c1,c1] (ag.fork (c7==c10) (ag.aj (c1::(nl c3<c5)::(nl c2<c5)::(nl (c3+c2)<c9)::c4) (ag.aj [c1] (ag.leaf aq.ret [rat (sQ c7 (c3+c2) c8) (cW (sQ c7 (c3+c2) c8))]))) (ag.aj [nl c3<c5,nl c2<c5] (ag.fork (decide (cZ c3 c2<0)) (ag.aj [nl c2<c5,nl c3<c5] (ag.aj (c1::(nl (c2-c3)<c9)::c4) (ag.aj [c1] (ag.leaf aq.ret [rat (sQ c10 (c2-c3) c8) (cW (sQ c10 (c2-c3) c8))])))) (ag.aj [nl c3<c5,nl c2<c5] (ag.aj (c1::(nl (c3-c2)<c9)::c4) (ag.aj [c1] (ag.leaf aq.ret [rat (sQ c7 (c3-c2) c8) (cW (sQ c7 (c3-c2) c8))])))))))))))))):=ah
theorem abR {q r:Rat} {n m:Nat}:bU T uP [] 60 f58 (aF f58) ⟨aQ 0 [.rat q n,.rat r m],[],0⟩=
  let c4:Nat:=q.num.natAbs*r.num.natAbs;let c3:Nat:=2^39;let c1:Prop:=0<1;let c2:Rat:=sQ (decide (q<0)!=decide (r<0)) c4 (q.den*r.den);some (ag.aj [c1,c1,c1,c1,nl q.num.natAbs<c3,nl r.num.natAbs<c3,c1,c1,nl q.den<c3,nl r.den<c3,nl c4<2^38,nl (q.den*r.den)<2^38,q.den*r.den≠0,c1] (ag.aj [c1] (ag.leaf aq.ret [rat c2 (cW c2)]))):=ah
theorem YJ {q r:Rat} {n m:Nat}:bU T uP [14,17,30] 60 f82 (aF f82) ⟨aQ 0 [.rat q n,.rat r m],[],0⟩=
  let c3:Int:=cZ (q.num.natAbs*r.den) (r.num.natAbs*q.den);let c2:Nat:=2^39;let c1:Prop:=0<1;some (ag.aj [c1,c1] (ag.fork (fQ q !=fQ r) (ag.fork (decide (fQ q<fQ r)) (ag.leaf aq.ret [int .i64 (-1:Int)]) (ag.leaf aq.ret [int .i64 (1:Int)])) (ag.aj [c1,c1,nl q.num.natAbs<c2,nl r.den<c2,c1,c1,nl r.num.natAbs<c2,nl q.den<c2,nl (q.num.natAbs*r.den)<2^40,nl (r.num.natAbs*q.den)<2^40] (ag.aj [c1] (ag.fork (decide (q<0)) (ag.leaf aq.ret [int .i64 (i64.wrap ((0:Int)-c3))]) (ag.leaf aq.ret [int .i64 c3])))))):=ah
theorem Yo {x y:Int}:bU T uP [11] 60 f128 (aF f128) ⟨aQ 0 [.int .i64 x,.int .i64 y],[],0⟩=
  let c3:List Prop:=[(0:Nat)<1];let c2:Int:=(2:Int)^63;let c1:Rat:=sQ (decide (x<0)!=decide (y<0)) x.natAbs y.natAbs;some (ag.fork (y==0) (ag.aj c3 (ag.aj c3 (ag.leaf aq.ret [agg [AV.bool false,mag 0,mag 0],int .i64 (3:Int)]))) (ag.aj [-c2<=x,x<c2] (ag.aj [-c2<=y,y<c2] (ag.aj ((nl x.natAbs<2^38)::(nl y.natAbs<2^38)::(y.natAbs≠0)::c3) (ag.aj c3 (ag.leaf aq.ret [rat c1 (cW c1),int .i64 (0:Int)])))))):=ah
theorem ahe {x:Int}:bU T uP [] 60 f51 (aF f51) ⟨aQ 0 [.int .i64 x],[],0⟩=
  some (ag.aj [-(2:Int)^63<=x,x<2^63] (ag.aj [(0:Nat)<1] (ag.aj [(0:Nat)<1] (ag.leaf aq.ret [agg [AV.bool (decide (x<0)),mag x.natAbs,mag 0]])))):=ah
theorem afw {q r:Rat} {n m:Nat}:bU T EW [] 60 f43 (aF f43) ⟨aQ 0 [.rat q n,.rat r m],[],0⟩=
  let c1:Prop:=0<1;some (ag.aj [c1,c1,n<2^41,m<2^41,c1] (ag.aj [c1] (ag.leaf aq.ret [rat (q+-r) (n+m+1)]))):=ah
theorem Yd {x y:Int}:bU T EW [] 60 f45 (aF f45) ⟨aQ 0 [.int .i64 x,.int .i64 y],[],0⟩=
  let c2:Prop:=0<1;let c1:Int:=(2:Int)^63;some (ag.aj [-c1<=x,x<c1,-c1<=y,y<c1,c2] (ag.aj [c2,c2] (ag.aj [c2] (ag.leaf aq.ret [rat ((↑x:Rat)/(↑y:Rat)) 64])))):=ah
theorem ij {N n:Nat} (h:N<2^n) (hn:n<2^42):nl N<2^38:=by
 have h1:N<2^(32*(n/32+1)):=Nat.lt_of_lt_of_le h (Nat.pow_le_pow_right aa aa)
 have:=dF.2 h1
 omega
section ops
variable {q r:Rat} {n m:Nat}
theorem tC {a b n m:Nat} (ha:a<2^n) (hb:b<2^m):a*b<2^(n+m):=by rw[Nat.pow_add];exact Nat.mul_lt_mul'' ha hb
theorem Eh (hn:n<2^41) (hm':m<2^41) (K:Nat):aS P 44 K [.rat q n,.rat r m] [] (aJ (.rat (q+r) (n+m+1)) []):=by
 refine kD fun⟨hq,hr,_⟩=>?_
 have hq:Sz q n:=hq
 have hr:Sz r m:=hr
 have d1:=q.den_nz
 have d2:=r.den_nz
 have hz:=hq.add hr
 have a1:nl q.num.natAbs<2^38:=ij hq.1 aa
 have a2:nl q.den<2^38:=ij hq.2 aa
 have b1:nl r.num.natAbs<2^38:=ij hr.1 aa
 have b2:nl r.den<2^38:=ij hr.2 aa
 have x1:=tC hq.1 hr.2
 have x2:=tC hr.1 hq.2
 have m1:nl (q.num.natAbs*r.den)<2^38:=ij x1 aa
 have m2:nl (r.num.natAbs*q.den)<2^38:=ij x2 aa
 have m3:nl (q.den*r.den)<2^38:=ij (tC hq.2 hr.2) aa
 have m4:nl (q.num.natAbs*r.den+r.num.natAbs*q.den)<2^38:=ij (n:=n+m+1) (by rw[Nat.pow_succ];rw[Nat.add_comm m n]at x2;omega) aa
 have hd0:q.den*r.den≠0:=Nat.mul_ne_zero d1 d2
 have hv:q+r=sQ (decide (q<0)) (q.num.natAbs*r.den) (q.den*r.den)+sQ (decide (r<0)) (r.num.natAbs*q.den) (q.den*r.den):=by
  have:=Gp q r (decide (r<0))
  rw[lU r]at this
  exact this
 refine bX hT xd hm YE rfl aV rfl 60 UP (fun _=>?_) K []
 generalize q.num.natAbs*r.den=X at*
 generalize r.num.natAbs*q.den=Y at*
 generalize q.den*r.den=D at*
 simp only[ag.all,az,beq_iff_eq,beq_eq_false_iff_ne,ne_eq,bk,bt,AN]
 have m5:nl (Y-X)<2^38:=Nat.lt_of_le_of_lt (iI aa) m2
 have m6:nl (X-Y)<2^38:=Nat.lt_of_le_of_lt (iI aa) m1
 refine⟨aa,fun hb=>⟨⟨aa,aa⟩,aa,dU ?_ hz⟩,fun hb=>⟨aa,fun hb2=>⟨⟨aa,aa⟩,aa,dU ?_ hz⟩,fun hb2=>⟨⟨aa,aa,aa,aa,aa,aa,aa,aa⟩,⟨aa,aa,aa,aa⟩,⟨aa,aa⟩,
  fun hs=>⟨⟨aa,aa,aa,m4,m3,hd0,aa⟩,aa,dU ?_ hz⟩,fun hs=>⟨⟨aa,aa⟩,fun hl=>⟨⟨aa,aa⟩,⟨aa,m5,m3,hd0,aa⟩,aa,dU ?_ hz⟩,fun hl=>⟨⟨aa,aa⟩,⟨aa,m6,m3,hd0,aa⟩,aa,dU ?_ hz⟩⟩⟩⟩⟩
 ·have h0:q=0:=pW.1 (j5.1 aa)
  rw[h0,Rat.zero_add]
 ·have h0:r=0:=pW.1 (j5.1 aa)
  rw[h0,Rat.add_zero]
 ·rw[hv,hs,GL hd0]
 ·rw[hv,Dc hd0 hs aa]
 ·rw[hv,DG hd0 hs aa]
theorem PT (hn:n<2^41) (hm':m<2^41) (K:Nat):aS P 58 K [.rat q n,.rat r m] [] (aJ (.rat (q*r) (n+m)) []):=by
 refine kD fun⟨hq,hr,_⟩=>?_
 have hq:Sz q n:=hq
 have hr:Sz r m:=hr
 have d1:=q.den_nz
 have d2:=r.den_nz
 have a1:nl q.num.natAbs<2^38:=ij hq.1 aa
 have a2:nl q.den<2^38:=ij hq.2 aa
 have b1:nl r.num.natAbs<2^38:=ij hr.1 aa
 have b2:nl r.den<2^38:=ij hr.2 aa
 have m1:nl (q.num.natAbs*r.num.natAbs)<2^38:=ij (tC hq.1 hr.1) aa
 have m3:nl (q.den*r.den)<2^38:=ij (tC hq.2 hr.2) aa
 have hv:sQ (decide (q<0)!=decide (r<0)) (q.num.natAbs*r.num.natAbs) (q.den*r.den)=q*r:=by rw[<-Eo,lU,lU]
 refine bX hT xd hm adk rfl aV rfl 60 abR (fun _=>?_) K []
 simp only[ag.all,az]
 exact⟨⟨aa,aa,aa,aa,aa,aa,aa,aa,aa,aa,m1,m3,Nat.mul_ne_zero d1 d2,aa⟩,aa,dU hv (hq.mul hr)⟩
theorem Ju (hn:n<2^41) (hm':m<2^41) (K:Nat):aS P 82 K [.rat q n,.rat r m] [] (aJ (.int .i64 (ep q r)) []):=by
 refine kD fun⟨hq,hr,_⟩=>?_
 have hq:Sz q n:=hq
 have hr:Sz r m:=hr
 have a1:nl q.num.natAbs<2^38:=ij hq.1 aa
 have a2:nl q.den<2^38:=ij hq.2 aa
 have b1:nl r.num.natAbs<2^38:=ij hr.1 aa
 have b2:nl r.den<2^38:=ij hr.2 aa
 have m1:nl (q.num.natAbs*r.den)<2^38:=ij (tC hq.1 hr.2) aa
 have m2:nl (r.num.natAbs*q.den)<2^38:=ij (tC hr.1 hq.2) aa
 refine bX hT xd hm abV rfl aV rfl 60 YJ (fun _=>?_) K []
 simp only[ag.all,az,bne_iff_ne,ne_eq,bne_eq_false_iff_eq]
 refine⟨⟨aa,aa⟩,fun hs=>⟨fun hl=>bS ?_,fun hl=>bS ?_⟩,fun hs=>⟨⟨aa,aa,aa,aa,aa,aa,aa,aa,aa,aa⟩,aa,fun hc=>bS ?_,fun hc=>bS ?_⟩⟩
 ·rw[Bk hs,if_pos (of_decide_eq_true hl)]
 ·rw[Bk hs,if_neg (of_decide_eq_false hl)]
 ·rw[o7 hs,if_pos (of_decide_eq_true hc),Bb]
 ·rw[o7 hs,if_neg (of_decide_eq_false hc)]
end ops
theorem DY {x y:Int} (hy:y≠0):sQ (decide (x<0)!=decide (y<0)) x.natAbs y.natAbs=(x:Rat)/(y:Rat):=by
 have h:=JJ (x:Rat) (y:Rat) (by simpa using hy)
 have c:∀{z:Int},decide ((z:Rat)<0)=decide (z<0):=fun {z}=>by rw[decide_eq_decide,jv,Rat.num_intCast]
 rw[c,c,Rat.num_intCast,Rat.num_intCast,Rat.den_intCast,Rat.den_intCast,Nat.mul_one,Nat.one_mul]at h
 exact h
theorem IG {x y:Int} (h1:-2^63<=x) (h2:x<2^63) (h3:-2^63<=y) (h4:y<2^63) (hy:y≠0):Sz ((x:Rat)/(y:Rat)) 64:=by
 rw[<-DY hy];exact B0 aa aa aa
theorem VB {x y:Int} (h1:-2^63<=x) (h2:x<2^63) (h3:-2^63<=y) (h4:y<2^63) (K:Nat):aS P 128 K [.int .i64 x,.int .i64 y] [] (aJ (.tuple [.rat ((x:Rat)/(y:Rat)) 64,.int .i64 (if y=0 then 3 else 0)]) []):=by
 refine bX hT xd hm RZ rfl aV rfl 60 Yo (fun _=>?_) K []
 simp only[ag.all,az,beq_iff_eq,beq_eq_false_iff_ne,ne_eq]
 refine⟨fun hb=>⟨aa,aa,?_,bS (by rw[if_pos hb]),trivial⟩,fun hb=>⟨⟨h1,h2⟩,⟨h3,h4⟩,⟨ij (n:=64) aa aa,ij (n:=64) aa aa,aa,aa⟩,aa,dU (DY hb) (IG h1 h2 h3 h4 hb),bS (by rw[if_neg hb]),trivial⟩⟩
 rw[hb,show((x:Rat)/((0:Int):Rat))=0 by rw[Rat.intCast_zero,Rat.div_def,Rat.inv_zero,Rat.mul_zero]]
 exact mM
theorem H9 {n:Int} (h1:-2^63<=n) (h2:n<2^63) (K:Nat):aS P 51 K [.int .i64 n] [] (aJ (.rat (n:Rat) (max 1 (bN n.natAbs))) []):=by
 refine bX hT xd hm Rq rfl aV rfl 60 ahe (fun _=>?_) K []
 simp only[ag.all,az]
 refine⟨⟨h1,h2⟩,aa,aa,tI El ?_ (by rw[Rat.num_intCast]) (by rw[Rat.den_intCast,if_pos rfl])⟩
 rw[decide_eq_decide,jv,Rat.num_intCast]
theorem XU:aU P K1 128:=by
 refine cF fun K args r hk hs _=>?_
 split at hs
 ·simp only[ay]at hs
  subst hs
  exact fun need=>VB need.1 need.2.1 need.2.2.1 need.2.2.2 K trivial
 ·simp at hs
theorem ahr:aU P K0 44:=by
 refine cF fun K args r hk hs _=>?_
 split at hs
 ·simp only[ay]at hs
  subst hs
  exact fun need=>Eh need.1 need.2 K trivial
 ·simp at hs
theorem NU:bq P EW:=aI ahr (aI OO (aI XU bB))
theorem IL {q r:Rat} {n m:Nat} (hn:n<2^41) (hm':m<2^41) (K:Nat):aS P 43 K [.rat q n,.rat r m] [] (aJ (.rat (q-r) (n+m+1)) []):=by
 refine bX hT NU hm Vi rfl aV rfl 60 afw (fun _=>?_) K []
 simp only[ag.all,az]
 exact⟨⟨aa,aa,hn,hm',aa⟩,aa,dX (by rw[Rat.sub_eq_add_neg])⟩
theorem ZA {x y:Int} (h1:-2^63<=x) (h2:x<2^63) (h3:-2^63<=y) (h4:y<2^63) (K:Nat):aS P 45 K [.int .i64 x,.int .i64 y] [] (aJ (.rat ((x:Rat)/(y:Rat)) 64) []):=by
 refine bX hT NU hm Vg rfl aV rfl 60 Yd (fun _=>?_) K []
 simp only[ag.all,az]
 exact⟨⟨h1,h2,h3,h4,aa⟩,⟨aa,aa⟩,aa,.refl _⟩
def yo:Spec:=bY fun l=>match l with
 |[.int .i64 n]=>some (aJ (.rat (n:Rat) (max 1 (bN n.natAbs))) [-2^63<=n,n<2^63])
 |_=>none
theorem CG:aU P yo 51:=by
 refine cF fun K args r hk hs _=>?_
 split at hs
 ·simp only[ay]at hs
  subst hs
  exact fun need=>H9 need.1 need.2 K trivial
 ·simp at hs
def tA:Spec:=bY fun l=>match l with
 |[.int .i64 x,.int .i64 y]=>some (aJ (.rat ((x:Rat)/(y:Rat)) 64) [-2^63<=x,x<2^63,-2^63<=y,y<2^63])
 |_=>none
theorem vH:aU P tA 45:=by
 refine cF fun K args r hk hs _=>?_
 split at hs
 ·simp only[ay]at hs
  subst hs
  exact fun need=>ZA need.1 need.2.1 need.2.2.1 need.2.2.2 K trivial
 ·simp at hs
end Go.Am.B
namespace Go.Am.B
open Go Go.Am.N AV Proofs.Tryz IntKind
theorem WD:aW 50 f50:=aT func50
theorem aiF:aW 6 f6:=aT func6
theorem aeu:aW 20 f20:=aT func20
theorem TA:aW 85 f85:=aT func85
abbrev j3 (n:Nat) (f:Nat->AV) (a:Int):au:=⟨false,true,2,1,fun _=>.agg [.ak 1 n f,.int .i64 a]⟩
theorem afR {x m:Int}:bU T [] [9] 60 f50 (aF f50) ⟨aQ 0 [.int .i64 x,.int .i64 m],[],0⟩=
  some (ag.aj [m≠(0:Int)] (ag.fork (decide (x.tmod m<0)) (ag.leaf aq.ret [int .i64 (i64.wrap (x.tmod m+m))]) (ag.leaf aq.ret [int .i64 (x.tmod m)]))):=ah
theorem Wb {n:Nat} {f:Nat->AV}:bU T [] [] 60 f6 (aF f6) ⟨aQ 0 [.ak 1 n f],[],0⟩=
  some (ag.leaf aq.ret [AV.bool (decide ((↑n:Int)<=500))]):=ah
theorem SL {n:Nat} {f:Nat->AV}:aH T [] [] 60 [2] [aF f20] ⟨aQ 0 [.ak 1 n f],[],0⟩=some (.leaf .ret ([.ptr 12288 0 2 0 []],[(12288,j3 n f 0)])):=ah
theorem aaH {x m:Int} (h1:0<m) (h2:m<2^62) (K:Nat):aS P 50 K [.int .i64 x,.int .i64 m] [] (aJ (.int .i64 (x%m)) []):=by
 refine bX hT bB hm WD rfl aV rfl 60 afR (fun _=>?_) K []
 simp only[ag.all,az,bk,bt]
 have h3:=Int.tmod_lt_of_pos x h1
 have h4:=Int.lt_tmod_of_pos x h1
 have h5:=Int.emod_nonneg x (show m≠0 by omega)
 have h6:=Int.emod_lt_of_pos x h1
 have h7:=Int.tmod_eq_emod (a:=x) (b:=m)
 have h8:∀{v:Int},v<0->v=x%m-((if 0<=x\/m∣x then 0 else m.natAbs:Nat):Int)->v+m=x%m:=fun {v} g1 g2=>by
  by_cases h:0<=x\/m∣x
  ·rw[if_pos h]at g2;omega
  ·rw[if_neg h]at g2;omega
 have h9:∀{v:Int},¬v<0->v=x%m-((if 0<=x\/m∣x then 0 else m.natAbs:Nat):Int)->v=x%m:=fun {v} g1 g2=>by
  by_cases h:0<=x\/m∣x
  ·rw[if_pos h]at g2;omega
  ·rw[if_neg h]at g2;omega
 refine⟨aa,fun hb=>bS ?_,fun hb=>bS (h9 hb h7)⟩
 rw[wrap_i64 aa aa]
 exact h8 hb h7
def Bc:Spec:=bY fun l=>match l with
 |[.int .i64 x,.int .i64 m]=>some (aJ (.int .i64 (x%m)) [0<m,m<2^62])
 |_=>none
def GM:aX:=[(50,Bc)]
theorem EN:aU P Bc 50:=by
 refine cF fun K args r hk hs _=>?_
 split at hs
 ·simp only[ay]at hs
  subst hs
  exact fun need=>aaH need.1 need.2 K trivial
 ·simp at hs
theorem ajB:bq P GM:=aI EN bB
theorem afZ {n:Nat} {z:Nat->Int} {a m:Int}:vS T GM [14] 60 f85 (aF f85) ⟨aQ 0 [.ptr 0 0 2 0 [],.int .i64 m],[(0,j3 n (fun i=>.int .i64 (z i)) a)],1⟩=
  let c4:Int:=i64.wrap (a+1);let c3:Prop:=0<1;let c1:AV:=agg [ak 1 n fun i=>int .i64 (z i),int .i64 a];let c2:Int:=i64.wrap (c4-1);some (ag.aj [c3,c3] (ag.fork (decide (a>=(↑n:Int))) (ag.leaf aq.ret ([int .i64 (0:Int)],some (au.mk false true 2 1 fun x=>c1))) (ag.aj [c3,c3] (ag.aj [c3,c3,(0:Int)<=c2/\c2.toNat<n,(0:Int)<m,m<2^62] (ag.leaf aq.ret ([int .i64 (z c2.toNat%m)],some (au.mk false true 2 1 fun j=>if(j==0)=true then agg (c1.kids.set 1 (bp (int .i64 c4)))else c1))))))):=ah
def intOf:AV->Int
 |.int _ n=>n
 |_=>0
def cC (n:Nat) (f:Nat->AV) (a m:Int):Int:=if(n:Int)<=a then 0 else intOf (f a.toNat)%m
def aR (n:Nat) (a:Int):Int:=if(n:Int)<=a then a else a+1
structure dc (n:Nat) (f:Nat->AV) (a:Int):Prop where
 ints:∀i,f i=.int .i64 (intOf (f i))
 lo:0<=a
 hi:a<=n
 len:n<2^62
theorem dc.next {n:Nat} {f:Nat->AV} {a:Int} (h:dc n f a):dc n f (aR n a):=
 ⟨h.ints,by have:=h.lo;unfold aR;split<;>omega,by have:=h.hi;unfold aR;split<;>omega,h.len⟩
theorem gJ {n:Nat} {f:Nat->AV} {a m:Int} (hm:0<m):0<=cC n f a m:=by
 unfold cC;split
 ·omega
 ·exact Int.emod_nonneg _ aa
theorem gT {n:Nat} {f:Nat->AV} {a m:Int} (hm:0<m):cC n f a m<m:=by
 unfold cC;split
 ·omega
 ·exact Int.emod_lt_of_pos _ hm
theorem oK {ρ:Nat->Option Nat} {n:Nat} {f g:Nat->AV} {a b:Int} (h:f=g) (h2:a=b):dK ρ (j3 n f a) (j3 n g b):=by
 subst h h2
 exact⟨rfl,rfl,rfl,rfl,fun i hi=>gy rfl⟩
theorem aiz {k n:Nat} {z:Nat->Int} {a m:Int} {o:au} (ho:∀ρ,dK ρ o (j3 n (fun i=>.int .i64 (z i)) a)) (h:dc n (fun i=>.int .i64 (z i)) a) (h1:0<m) (h2:m<2^62) (K:Nat):
  aS P 85 K [.ptr k 0 2 0 [],.int .i64 m] [(k,o)] ⟨.int .i64 (cC n (fun i=>.int .i64 (z i)) a m),[(k,j3 n (fun i=>.int .i64 (z i)) (aR n a))],[]⟩:=by
 refine BA hT ajB hm TA rfl rfl aV ho 60 afZ (fun _=>?_) K
 have h3:=h.lo
 have h4:=h.hi
 have h5:=h.len
 simp only[ag.all,az,bk,bt]
 refine⟨⟨aa,aa⟩,fun hb=>⟨bS ?_,_,rfl,rfl,?_⟩,fun hb=>⟨⟨aa,aa⟩,?_⟩⟩
 ·unfold cC;rw[if_pos aa]
 ·exact oK rfl (by unfold aR;rw[if_pos aa])
 have e1:i64.wrap (a+1)=a+1:=wrap_i64 aa aa
 have e2:i64.wrap (a+1-1)=a:=by rw[wrap_i64 aa aa];omega
 rw[e1,e2]
 refine⟨⟨aa,aa,aa,h1,h2⟩,bS ?_,_,rfl,rfl,⟨rfl,rfl,rfl,rfl,fun i hi=>?_⟩⟩
 ·unfold cC;rw[if_neg aa];rfl
 ·rw[show i=0 by have:i<1:=hi;omega]
  show gz _ (.agg [.ak 1 n (fun i=>.int .i64 (z i)),.int .i64 (a+1)]) (.agg [.ak 1 n (fun i=>.int .i64 (z i)),.int .i64 (aR n a)])
  rw[show aR n a=a+1 by unfold aR;rw[if_neg aa]]
  exact gy rfl
def Dz (k:Nat) (pre:aC):Option (Nat×(Nat->AV)×Int):=match pre with
 |[(k',o)]=>if k==k'&&!o.row&&o.wr&&o.es==2&&o.len==1 then match o.f 0 with
  |.agg [.ak 1 n f,.int .i64 a]=>some (n,f,a)
  |_=>none
  else none
 |_=>none
def jD (g:Nat->(Nat->AV)->Int->List AV->Option (AV×Int×List Prop)):Spec:=fun _ args pre=>match args with
 |.ptr k 0 2 0 []::l=>match Dz k pre with
  |some (n,f,a)=>match g n f a l with
   |some (v,b,q)=>some ⟨v,[(k,j3 n f b)],dc n f a::q⟩
   |none=>none
  |none=>none
 |_=>none
theorem W0 {k:Nat} {pre:aC} {n:Nat} {f:Nat->AV} {a:Int} (h:Dz k pre=some (n,f,a)):∃o,pre=[(k,o)]/\∀ρ,dK ρ o (j3 n f a):=by
 unfold Dz at h
 split at h
 ·rename_i k' o
  split at h
  ·rename_i hc
   simp only[Bool.and_eq_true,beq_iff_eq,Bool.not_eq_true']at hc
   obtain⟨⟨⟨⟨rfl,h2⟩,h3⟩,h4⟩,h5⟩:=hc
   split at h
   ·rename_i n' f' a' hf
    simp only[ay,Prod.mk.injEq]at h
    obtain⟨rfl,rfl,rfl⟩:=h
    refine⟨o,rfl,fun ρ=>?_⟩
    obtain⟨row,wr,es,len,g⟩:=o
    simp only at h2 h3 h4 h5 hf
    subst h2 h3 h4 h5
    refine jR rfl fun i hi=>?_
    rw[show i=0 by omega,hf]
    exact gy rfl
   ·simp at h
  ·simp at h
 ·simp at h
theorem ua {fid:FuncId} {g:Nat->(Nat->AV)->Int->List AV->Option (AV×Int×List Prop)}
  (h:∀{k n:Nat} {z:Nat->Int} {a:Int} {l:List AV} {v:AV} {b:Int} {q:List Prop} {o:au} (K:Nat),g n (fun i=>.int .i64 (z i)) a l=some (v,b,q)->(∀ρ,dK ρ o (j3 n (fun i=>.int .i64 (z i)) a))->dc n (fun i=>.int .i64 (z i)) a->az q->aS P fid K (.ptr k 0 2 0 []::l) [(k,o)] ⟨v,[(k,j3 n (fun i=>.int .i64 (z i)) b)],[]⟩):aU P (jD g) fid:=by
 intro K args pre r hs
 unfold jD at hs
 split at hs
 ·rename_i k l
  split at hs
  ·rename_i n f a hd
   split at hs
   ·rename_i v b q hv
    simp only[ay]at hs
    subst hs
    obtain⟨o,rfl,ho⟩:=W0 hd
    intro need
    obtain⟨hd,hq⟩:=(fD (a:=[dc n f a]) (b:=q)).1 need
    have hd:dc n f a:=hd
    obtain⟨z,rfl⟩:∃z:Nat->Int,f=fun i=>.int .i64 (z i):=⟨fun i=>intOf (f i),funext fun i=>hd.ints i⟩
    exact h K hv ho hd hq trivial
   ·simp at hs
  ·simp at hs
 ·simp at hs
def uf (n:Nat) (f:Nat->AV) (a:Int) (l:List AV):Option (AV×Int×List Prop):=match l with
 |[.int .i64 m]=>some (.int .i64 (cC n f a m),aR n a,[0<m,m<2^62])
 |_=>none
theorem BK:aU P (jD uf) 85:=by
 refine ua fun {k n z a l v b q o} K hg ho hd hq=>?_
 unfold uf at hg
 split at hg
 ·simp only[ay,Prod.mk.injEq]at hg
  obtain⟨rfl,rfl,rfl⟩:=hg
  exact aiz ho hd hq.1 hq.2 K
 ·simp at hg
theorem agD:aW 157 f157:=aT func157
theorem WE:aW 84 f84:=aT func84
def GN:aX:=[(85,jD uf),(45,tA),(51,yo)]
def gD (n:Nat) (f:Nat->AV) (a:Int):Rat:=if cC n f (aR n a) 4=3 then((cC n f a 13-6:Int):Rat)/((1+cC n f (aR n (aR n a)) 4:Int):Rat)else((cC n f a 13-6:Int):Rat)
def gR (n:Nat) (f:Nat->AV) (a:Int):Int:=if cC n f (aR n a) 4=3 then aR n (aR n (aR n a))else aR n (aR n a)
def FX (n:Nat) (f:Nat->AV) (a:Int) (l:List AV):Option (AV×Int×List Prop):=match l with
 |[]=>some (.rat (gD n f a) 64,gR n f a,[])
 |_=>none
def GP:aX:=[(157,jD FX)]
def jj (n:Nat) (f:Nat->AV) (a:Int):Int:=gR n f (gR n f (gR n f a))
def EA (n:Nat) (f:Nat->AV) (a:Int) (l:List AV):Option (AV×Int×List Prop):=match l with
 |[]=>some (.agg [.rat (gD n f a) 64,.rat (gD n f (gR n f a)) 64,.rat (gD n f (gR n f (gR n f a))) 64],jj n f a,[])
 |_=>none
theorem ZV:bq P GN:=aI BK (aI vH (aI CG bB))
theorem ZD {n:Nat} {z:Nat->Int} {a:Int}:vS T GN [8] 60 f157 (aF f157) ⟨aQ 0 [.ptr 0 0 2 0 []],[(0,j3 n (fun i=>.int .i64 (z i)) a)],1⟩=
  let c7:Int:=(2:Int)^62;let c6:AV:=ak 1 n fun i=>int .i64 (z i);let c5:Int:=aR n (aR n a);let c4:List Prop:=[(0:Nat)<1];let c3:Int:=(2:Int)^63;let c1:Int:=i64.wrap (cC n (fun i=>int .i64 (z i)) a (13:Int)-6);let c2:Int:=i64.wrap ((1:Int)+cC n (fun i=>int .i64 (z i)) c5 (4:Int));some (ag.aj [dc n (fun i=>int .i64 (z i)) a,(0:Int)<13,(13:Int)<c7] (ag.aj [dc n (fun i=>int .i64 (z i)) (aR n a),(0:Int)<4,(4:Int)<c7] (ag.fork (cC n (fun i=>int .i64 (z i)) (aR n a) (4:Int)==3) (ag.aj (dc n (fun i=>int .i64 (z i)) c5::((0:Int)<4)::((4:Int)<c7)::(-c3<=c1)::(c1<c3)::(-c3<=c2)::(c2<c3)::c4) (ag.aj c4 (ag.leaf aq.ret ([rat ((↑c1:Rat)/(↑c2:Rat)) 64],some (au.mk false true 2 1 fun x=>agg [c6,int .i64 (aR n c5)]))))) (ag.aj ((-c3<=c1)::(c1<c3)::c4) (ag.aj c4 (ag.leaf aq.ret ([rat (↑c1:Rat) (max 1 (bN c1.natAbs))],some (au.mk false true 2 1 fun x=>agg [c6,int .i64 c5])))))))):=ah
theorem TR {n:Nat} {z:Nat->Int} {a:Int}:vS T GP [] 60 f84 (aF f84) ⟨aQ 0 [.ptr 0 0 2 0 []],[(0,j3 n (fun i=>.int .i64 (z i)) a)],1⟩=
  let c2:Int:=gR n (fun i=>int .i64 (z i)) a;let c1:Int:=gR n (fun i=>int .i64 (z i)) c2;some (ag.aj [dc n (fun i=>int .i64 (z i)) a,dc n (fun i=>int .i64 (z i)) c2,dc n (fun i=>int .i64 (z i)) c1,(0:Nat)<1] (ag.aj [(0:Nat)<1] (ag.leaf aq.ret ([agg [rat (gD n (fun i=>int .i64 (z i)) a) 64,rat (gD n (fun i=>int .i64 (z i)) c2) 64,rat (gD n (fun i=>int .i64 (z i)) c1) 64]],some (au.mk false true 2 1 fun x=>agg [ak 1 n fun i=>int .i64 (z i),int .i64 (gR n (fun i=>int .i64 (z i)) c1)]))))):=ah
theorem dc.number {n:Nat} {f:Nat->AV} {a:Int} (h:dc n f a):dc n f (gR n f a):=by
 unfold gR;split
 ·exact h.next.next.next
 ·exact h.next.next
theorem dc.z9 {n:Nat} {f:Nat->AV} {a:Int} (h:dc n f a):dc n f (jj n f a):=h.number.number.number
theorem JV {x y:Int} (h1:-2^63<=x) (h2:x<2^63):Sz (x:Rat) 64:=El.more (by
 have:bN x.natAbs<=64:=jr.2 aa
 omega)
theorem abI {k n:Nat} {z:Nat->Int} {a:Int} {o:au} (ho:∀ρ,dK ρ o (j3 n (fun i=>.int .i64 (z i)) a)) (h:dc n (fun i=>.int .i64 (z i)) a) (K:Nat):
  aS P 157 K [.ptr k 0 2 0 []] [(k,o)] ⟨.rat (gD n (fun i=>.int .i64 (z i)) a) 64,[(k,j3 n (fun i=>.int .i64 (z i)) (gR n (fun i=>.int .i64 (z i)) a))],[]⟩:=by
 refine BA hT ZV hm agD rfl rfl aV ho 60 ZD (fun _=>?_) K
 have a1:=gJ (n:=n) (f:=fun i=>.int .i64 (z i)) (a:=a) (m:=13) aa
 have a2:=gT (n:=n) (f:=fun i=>.int .i64 (z i)) (a:=a) (m:=13) aa
 have b1:=gJ (n:=n) (f:=fun i=>.int .i64 (z i)) (a:=aR n (aR n a)) (m:=4) aa
 have b2:=gT (n:=n) (f:=fun i=>.int .i64 (z i)) (a:=aR n (aR n a)) (m:=4) aa
 unfold gD gR
 generalize cC n (fun i=>.int .i64 (z i)) a 13=x at*
 generalize cC n (fun i=>.int .i64 (z i)) (aR n (aR n a)) 4=y at*
 generalize cC n (fun i=>.int .i64 (z i)) (aR n a) 4=w at*
 have e1:i64.wrap (x-6)=x-6:=wrap_i64 aa aa
 have e2:i64.wrap (1+y)=1+y:=wrap_i64 aa aa
 rw[e1,e2]
 simp only[ag.all,az,beq_iff_eq,beq_eq_false_iff_ne,ne_eq]
 refine⟨⟨h,aa,aa⟩,⟨h.next,aa,aa⟩,fun hw=>⟨⟨h.next.next,aa,aa,aa,aa,aa,aa,aa⟩,aa,dX (by rw[if_pos hw]),_,rfl,rfl,oK rfl (by rw[if_pos hw])⟩,fun hw=>⟨⟨aa,aa,aa⟩,aa,?_,_,rfl,rfl,oK rfl (by rw[if_neg hw])⟩⟩
 rw[if_neg hw]
 exact dU rfl (JV (y:=0) aa aa)
theorem VT:aU P (jD FX) 157:=by
 refine ua fun {k n z a l v b q o} K hg ho hd hq=>?_
 unfold FX at hg
 split at hg
 ·simp only[ay,Prod.mk.injEq]at hg
  obtain⟨rfl,rfl,rfl⟩:=hg
  exact abI ho hd K
 ·simp at hg
theorem aeM:bq P GP:=aI VT bB
theorem agO:aU P (jD EA) 84:=by
 refine ua fun {k n z a l v b q o} K hg ho hd hq=>?_
 unfold EA at hg
 split at hg
 ·simp only[ay,Prod.mk.injEq]at hg
  obtain⟨rfl,rfl,rfl⟩:=hg
  refine BA hT aeM hm WE rfl rfl aV ho 60 TR (fun _=>?_) K
  simp only[ag.all,az]
  exact⟨⟨hd,hd.number,hd.number.number,aa⟩,aa,.refl _,_,rfl,rfl,oK rfl rfl⟩
 ·simp at hg
def QJ:Spec:=bY fun l=>match l with
 |[.ak 1 n _]=>some (aJ (.bool (decide ((n:Int)<=500))) [])
 |_=>none
theorem aaf:aU P QJ 6:=by
 refine cF fun K args r hk hs _=>?_
 split at hs
 ·simp only[ay]at hs
  subst hs
  refine bX hT bB hm aiF rfl aV rfl 60 Wb (fun _=>?_) K []
  exact .refl _
 ·simp at hs
def P1:Spec:=rY fun K l=>match l with
 |[.ak 1 n f]=>some ⟨.ptr K 0 2 0 [],[(K,j3 n f 0)],[]⟩
 |_=>none
theorem To:aU P P1 20:=by
 refine wS fun K args r hk hs=>?_
 split at hs
 ·simp only[ay]at hs
  subst hs
  exact Ti hT bB hm aeu hk rfl aV ah (q:=[]) 60 SL (.inr rfl) (fun ρ=>oK rfl rfl) K
 ·simp at hs
theorem aa0:aW 59 f59:=aT func59
def acU:aX:=[(50,Bc),(45,tA)]
theorem TK {d:Int}:bU T acU [] 60 f59 (aF f59) ⟨aQ 0 [.int .i64 d],[],0⟩=
  some (ag.aj [(17:Int)≠(0:Int),(0:Int)<12,(12:Int)<2^62] (ag.aj [(0:Int)<i64.wrap (i64.wrap ((1:Int)+i64.wrap (d.tdiv (17:Int))%(12:Int))+1),i64.wrap (i64.wrap ((1:Int)+i64.wrap (d.tdiv (17:Int))%(12:Int))+1)<2^62,-(2:Int)^63<=d%i64.wrap (i64.wrap ((1:Int)+i64.wrap (d.tdiv (17:Int))%(12:Int))+1),d%i64.wrap (i64.wrap ((1:Int)+i64.wrap (d.tdiv (17:Int))%(12:Int))+1)<2^63,-(2:Int)^63<=i64.wrap ((1:Int)+i64.wrap (d.tdiv (17:Int))%(12:Int)),i64.wrap ((1:Int)+i64.wrap (d.tdiv (17:Int))%(12:Int))<2^63,(0:Nat)<1] (ag.aj [(0:Nat)<1] (ag.leaf aq.ret [rat ((↑(d%i64.wrap (i64.wrap ((1:Int)+i64.wrap (d.tdiv (17:Int))%(12:Int))+1)):Rat)/(↑(i64.wrap ((1:Int)+i64.wrap (d.tdiv (17:Int))%(12:Int))):Rat)) 64])))):=ah
def qJ (d:Int):Int:=1+i64.wrap (d.tdiv 17)%12
def gN (d:Int):Rat:=((d%(qJ d+1):Int):Rat)/((qJ d:Int):Rat)
def K2:Spec:=bY fun l=>match l with
 |[.int .i64 d]=>some (aJ (.rat (gN d) 64) [])
 |_=>none
theorem Ug:aU P K2 59:=by
 refine cF fun K args r hk hs _=>?_
 split at hs
 ·rename_i d
  simp only[ay]at hs
  subst hs
  refine bX hT (aI EN (aI vH bB)) hm aa0 rfl aV rfl 60 TK (fun _=>?_) K []
  unfold gN qJ
  generalize i64.wrap (d.tdiv 17)=w at*
  have w1:=Int.emod_nonneg w (show(12:Int)≠0 by omega)
  have w2:=Int.emod_lt_of_pos w (show(0:Int)<12 by omega)
  generalize w%12=x at*
  have e1:i64.wrap (1+x)=1+x:=wrap_i64 aa aa
  have e2:i64.wrap (1+x+1)=1+x+1:=wrap_i64 aa aa
  rw[e1,e2]
  have v1:=Int.emod_nonneg d (show 1+x+1≠0 by omega)
  have v2:=Int.emod_lt_of_pos d (show 0<1+x+1 by omega)
  generalize d%(1+x+1)=y at*
  simp only[ag.all,az]
  exact⟨⟨aa,aa,aa⟩,⟨aa,aa,aa,aa,aa,aa,aa⟩,aa,.refl _⟩
 ·simp at hs
@[ext] structure V3 where
 x:Rat
 y:Rat
 z:Rat
structure Pl where
 n:V3
 d:Rat
abbrev rA (q:Rat) (n:Nat):AV:=.rat q n
abbrev vA (v:V3) (n:Nat):AV:=.agg [.rat v.x n,.rat v.y n,.rat v.z n]
abbrev bJ (p:Pl) (n:Nat):AV:=.agg [vA p.n n,.rat p.d n]
theorem cB {q r:Rat} {n k:Nat} (h:q=r) (hk:n<=k):bh (.rat q n) (.rat r k):=h▸ey hk
theorem x8 {u v:V3} {n k:Nat} (h:u=v) (hk:n<=k):bh (vA u n) (vA v k):=
 h▸cL ⟨cB rfl hk,cB rfl hk,cB rfl hk,trivial⟩
structure Kind (α:Type) where
 read:AV->Option (α×List Prop)
 make:α->AV
 ok:∀{v:AV} {a:α} {q:List Prop},read v=some (a,q)->az q->bh v (make a)
def jL:AV->Option (Rat×Nat)
 |.rat q n=>some (q,n)
 |.agg [.bool false,.mag 0,.mag 0]=>some (0,1)
 |_=>none
theorem kZ {v:AV} {a:Rat×Nat} (h:jL v=some a):bh v (rA a.1 a.2):=by
 unfold jL at h
 split at h
 ·simp only[ay]at h;subst h;exact .refl _
 ·simp only[ay]at h;subst h;exact mM
 ·simp at h
def EF:AV->Option ((V3×Nat)×List Prop)
 |.agg [x,y,z]=>match jL x,jL y,jL z with
  |some (x,a),some (y,b),some (z,c)=>some ((⟨x,y,z⟩,a),[b<=a,c<=a])
  |_,_,_=>none
 |_=>none
theorem ag7 {v:AV} {a:V3×Nat} {q:List Prop} (h:EF v=some (a,q)) (hq:az q):bh v (vA a.1 a.2):=by
 unfold EF at h
 split at h
 ·split at h
  ·rename_i h1 h2 h3
   simp only[ay,Prod.mk.injEq]at h
   obtain⟨rfl,rfl⟩:=h
   exact cL ⟨kZ h1,(kZ h2).trans (cB rfl hq.1),(kZ h3).trans (cB rfl hq.2),trivial⟩
  ·simp at h
 ·simp at h
def AI:AV->Option ((Pl×Nat)×List Prop)
 |.agg [v,d]=>match EF v,jL d with
  |some ((v,a),q),some (d,b)=>some ((⟨v,d⟩,max a b),q)
  |_,_=>none
 |_=>none
theorem afn {v:AV} {a:Pl×Nat} {q:List Prop} (h:AI v=some (a,q)) (hq:az q):bh v (bJ a.1 a.2):=by
 unfold AI at h
 split at h
 ·split at h
  ·rename_i h1 h2
   simp only[ay,Prod.mk.injEq]at h
   obtain⟨rfl,rfl⟩:=h
   exact cL ⟨(ag7 h1 hq).trans (x8 rfl (by simp only;omega)),(kZ h2).trans (cB rfl (by simp only;omega)),trivial⟩
  ·simp at h
 ·simp at h
def D7 (v:AV):Option ((Rat×Nat)×List Prop):=match jL v with
 |some a=>some (a,[])
 |none=>none
theorem ah8 {v:AV} {a:Rat×Nat} {q:List Prop} (h:D7 v=some (a,q)) (_:az q):bh v (rA a.1 a.2):=by
 unfold D7 at h
 split at h
 ·rename_i h1
  simp only[ay,Prod.mk.injEq]at h
  obtain⟨rfl,rfl⟩:=h
  exact kZ h1
 ·simp at h
def DA:AV->Option (Int×List Prop)
 |.int .i64 n=>some (n,[])
 |_=>none
theorem SH {v:AV} {a:Int} {q:List Prop} (h:DA v=some (a,q)) (_:az q):bh v (.int .i64 a):=by
 unfold DA at h
 split at h
 ·simp only[ay,Prod.mk.injEq]at h
  obtain⟨rfl,rfl⟩:=h
  exact .refl _
 ·simp at h
def kR:Kind (Rat×Nat):=⟨D7,fun a=>rA a.1 a.2,ah8⟩
def Y8:Kind (Pl×Nat):=⟨AI,fun a=>bJ a.1 a.2,afn⟩
def kI:Kind Int:=⟨DA,fun a=>.int .i64 a,SH⟩
section specs
variable {α β γ δ:Type} {f:FuncId}
def Fe (k:Kind α) (g:α->AV) (need:α->List Prop):Spec:=bY fun l=>match l with
 |[x]=>match k.read x with
  |some (a,p)=>some (aJ (g a) (p++need a))
  |none=>none
 |_=>none
theorem NK {k:Kind α} {g:α->AV} {need:α->List Prop} (h:∀a K,az (need a)->aS P f K [k.make a] [] (aJ (g a) [])):aU P (Fe k g need) f:=by
 refine cF fun K args r hk hs _=>?_
 split at hs
 ·split at hs
  ·rename_i h1
   simp only[ay]at hs
   subst hs
   intro hn
   obtain⟨n1,hn⟩:=fD.1 hn
   exact iD (h _ K hn) hk ⟨k.ok h1 n1,trivial⟩ [] trivial
  ·simp at hs
 ·simp at hs
def lg (k:Kind α) (k2:Kind β) (g:α->β->AV) (need:α->β->List Prop):Spec:=bY fun l=>match l with
 |[x,y]=>match k.read x,k2.read y with
  |some (a,p),some (b,q)=>some (aJ (g a b) (p++(q++need a b)))
  |_,_=>none
 |_=>none
theorem mN {k:Kind α} {k2:Kind β} {g:α->β->AV} {need:α->β->List Prop} (h:∀a b K,az (need a b)->aS P f K [k.make a,k2.make b] [] (aJ (g a b) [])):aU P (lg k k2 g need) f:=by
 refine cF fun K args r hk hs _=>?_
 split at hs
 ·split at hs
  ·rename_i h1 h2
   simp only[ay]at hs
   subst hs
   intro hn
   obtain⟨n1,hn⟩:=fD.1 hn
   obtain⟨n2,hn⟩:=fD.1 hn
   exact iD (h _ _ K hn) hk ⟨k.ok h1 n1,k2.ok h2 n2,trivial⟩ [] trivial
  ·simp at hs
 ·simp at hs
end specs
def sW (a b:Rat×Nat):List Prop:=[a.2<2^42,b.2<2^42]
def yc (a b:Rat×Nat):List Prop:=[a.2<2^41,b.2<2^41]
def ng (a b:Rat×Nat):AV:=rA (a.1+b.1) (a.2+b.2+1)
def zZ (a b:Rat×Nat):AV:=rA (a.1-b.1) (a.2+b.2+1)
def CO (a b:Rat×Nat):AV:=rA (a.1*b.1) (a.2+b.2)
def F9 (a b:Rat×Nat):AV:=.tuple [rA (a.1/b.1) (a.2+b.2),.int .i64 (if b.1=0 then 3 else 0)]
def Qe (a b:Rat×Nat):AV:=rA (fJ a.1 b.1) (max a.2 b.2)
def Kv (a b:Rat×Nat):AV:=rA (ff a.1 b.1) (max a.2 b.2)
def CC (a b:Rat×Nat):AV:=.int .i64 (ep a.1 b.1)
def BW (a b:Rat×Nat):AV:=.bool (decide (a.1=b.1))
def CE (a:Rat×Nat):AV:=.int .i64 (fQ a.1)
abbrev G6:FuncId×Spec:=(221,ML)
def gW:aX:=[(106,lg kR kR ng sW),(163,lg kR kR zZ sW),(173,lg kR kR CO sW),(63,lg kR kR BW sW),(108,lg kR kR CC sW),(79,Fe kR CE fun a=>[a.2<2^42]),G6]
def rV:aX:=[(44,lg kR kR ng yc),(43,lg kR kR zZ yc),(58,lg kR kR CO yc),(83,lg kR kR BW yc),(82,lg kR kR CC yc),(156,Fe kR CE fun a=>[a.2<2^41]),(51,yo)]
theorem Wm:aU P G6.2 G6.1:=aaq
theorem iN:bq P gW:=aI (mN fun _ _ K hn=>LO hn.1 hn.2 K) (aI (mN fun _ _ K hn=>Ni hn.1 hn.2 K) (aI (mN fun _ _ K hn=>NA hn.1 hn.2 K)
 (aI (mN fun _ _ K hn=>K5 (Nat.lt_trans hn.1 aa) (Nat.lt_trans hn.2 aa) K []) (aI (mN fun _ _ K hn=>G5 hn.1 hn.2 K []) (aI (NK fun _ K hn=>E5 (Nat.lt_trans hn aa) K []) (aI Wm bB))))))
theorem vu:bq P rV:=aI (mN fun _ _ K hn=>Eh hn.1 hn.2 K) (aI (mN fun _ _ K hn=>IL hn.1 hn.2 K) (aI (mN fun _ _ K hn=>PT hn.1 hn.2 K)
 (aI (mN fun _ _ K hn=>HM (Nat.lt_trans hn.1 aa) (Nat.lt_trans hn.2 aa) K []) (aI (mN fun _ _ K hn=>Ju hn.1 hn.2 K) (aI (NK fun _ K _=>Fy K []) (aI CG bB))))))
end Go.Am.B
namespace Go.Am.B
open Go Go.Am.N AV Proofs.Tryz IntKind
structure Kd (α:Type) where
 read:AV->Option α
 make:α->AV
 ok:∀{v:AV} {a:α},read v=some a->bh v (make a)
def DU:AV->Option (V3×Nat)
 |.agg [x,y,z]=>match jL x,jL y,jL z with
  |some (x,a),some (y,b),some (z,c)=>some (⟨x,y,z⟩,max a (max b c))
  |_,_,_=>none
 |_=>none
theorem Sa {v:AV} {a:V3×Nat} (h:DU v=some a):bh v (vA a.1 a.2):=by
 unfold DU at h
 split at h
 ·split at h
  ·rename_i h1 h2 h3
   simp only[ay]at h
   subst h
   exact cL ⟨(kZ h1).trans (cB rfl (by simp only;omega)),(kZ h2).trans (cB rfl (by simp only;omega)),(kZ h3).trans (cB rfl (by simp only;omega)),trivial⟩
  ·simp at h
 ·simp at h
def dR:Kd (Rat×Nat):=⟨jL,fun a=>rA a.1 a.2,kZ⟩
def dV:Kd (V3×Nat):=⟨DU,fun a=>vA a.1 a.2,Sa⟩
section specs
variable {α β γ δ:Type} {f:FuncId}
def DE (k:Kd α) (g:α->AV) (B:α->Bool):Spec:=bY fun l=>match l with
 |[x]=>match k.read x with
  |some a=>match B a with
   |true=>some (aJ (g a) [])
   |false=>none
  |_=>none
 |_=>none
theorem MD {k:Kd α} {g:α->AV} {B:α->Bool} (h:∀a K,B a=true->aS P f K [k.make a] [] (aJ (g a) [])):aU P (DE k g B) f:=by
 refine cF fun K args r hk hs _=>?_
 split at hs
 ·split at hs
  ·rename_i h1
   split at hs
   ·rename_i hB
    simp only[ay]at hs
    subst hs
    exact iD (h _ K hB) hk ⟨k.ok h1,trivial⟩ []
   ·simp at hs
  ·simp at hs
 ·simp at hs
def jS (k:Kd α) (k2:Kd β) (g:α->β->AV) (B:α->β->Bool):Spec:=bY fun l=>match l with
 |[x,y]=>match k.read x,k2.read y with
  |some a,some b=>match B a b with
   |true=>some (aJ (g a b) [])
   |false=>none
  |_,_=>none
 |_=>none
theorem kK {k:Kd α} {k2:Kd β} {g:α->β->AV} {B:α->β->Bool} (h:∀a b K,B a b=true->aS P f K [k.make a,k2.make b] [] (aJ (g a b) [])):aU P (jS k k2 g B) f:=by
 refine cF fun K args r hk hs _=>?_
 split at hs
 ·split at hs
  ·rename_i h1 h2
   split at hs
   ·rename_i hB
    simp only[ay]at hs
    subst hs
    exact iD (h _ _ K hB) hk ⟨k.ok h1,k2.ok h2,trivial⟩ []
   ·simp at hs
  ·simp at hs
 ·simp at hs
end specs
def b1 {α:Type} (e:Nat) (a:α×Nat):Bool:=Nat.blt a.2 (2^e)
def b2 {α β:Type} (e:Nat) (a:α×Nat) (b:β×Nat):Bool:=Nat.blt a.2 (2^e)&&Nat.blt b.2 (2^e)
def b3 {α β γ:Type} (e:Nat) (a:α×Nat) (b:β×Nat) (c:γ×Nat):Bool:=Nat.blt a.2 (2^e)&&(Nat.blt b.2 (2^e)&&Nat.blt c.2 (2^e))
theorem La {a b:Nat}:Nat.blt a b=true↔a<b:=by rw[Nat.blt_eq]
theorem aiC {α:Type} {e:Nat} {a:α×Nat} (h:b1 e a=true):a.2<2^e:=La.1 h
theorem ga {α β:Type} {e:Nat} {a:α×Nat} {b:β×Nat} (h:b2 e a b=true):a.2<2^e/\b.2<2^e:=by
 simp only[b2,Bool.and_eq_true,La]at h;exact h
def AA:Spec:=bY fun l=>match l with
 |[.int .i64 n]=>match decide (-2^63<=n/\n<2^63)with
  |true=>some (aJ (.rat (n:Rat) (max 1 (bN n.natAbs))) [])
  |false=>none
 |_=>none
abbrev Gk:FuncId×Spec:=(221,AA)
abbrev EV:FuncId×Spec:=(145,jS dR dR Qe (b2 42))
abbrev FN:FuncId×Spec:=(146,jS dR dR Kv (b2 42))
def oX:aX:=[(106,jS dR dR ng (b2 42)),(163,jS dR dR zZ (b2 42)),(173,jS dR dR CO (b2 42)),(63,jS dR dR BW (b2 42)),(108,jS dR dR CC (b2 42)),(79,DE dR CE (b1 42)),Gk,(174,jS dR dR F9 (b2 42)),EV,FN]
def rR:aX:=[(44,jS dR dR ng (b2 41)),(43,jS dR dR zZ (b2 41)),(58,jS dR dR CO (b2 41)),(83,jS dR dR BW (b2 41)),(82,jS dR dR CC (b2 41)),(156,DE dR CE (b1 41)),(51,AA)]
theorem Es {n:Nat} (h:n<2^42):n<2^44:=Nat.lt_trans h aa
theorem MC {n:Nat} (h:n<2^41):n<2^44:=Nat.lt_trans h aa
theorem Gl {f:FuncId} (h:∀{n:Int},-2^63<=n->n<2^63->∀K,aS P f K [.int .i64 n] [] (aJ (.rat (n:Rat) (max 1 (bN n.natAbs))) [])):aU P AA f:=by
 refine cF fun K args r hk hs _=>?_
 split at hs
 ·split at hs
  ·rename_i hc
   simp only[ay]at hs
   subst hs
   have:=of_decide_eq_true hc
   exact h this.1 this.2 K
  ·simp at hs
 ·simp at hs
theorem acg:aU P Gk.2 Gk.1:=Gl Hw
theorem ai4:aU P EV.2 EV.1:=kK fun _ _ K hn=>Zt (ga hn).1 (ga hn).2 K
theorem YX:aU P FN.2 FN.1:=kK fun _ _ K hn=>Va (ga hn).1 (ga hn).2 K
theorem qM:bq P oX:=aI (kK fun _ _ K hn=>LO (ga hn).1 (ga hn).2 K) (aI (kK fun _ _ K hn=>Ni (ga hn).1 (ga hn).2 K) (aI (kK fun _ _ K hn=>NA (ga hn).1 (ga hn).2 K)
 (aI (kK fun _ _ K hn=>K5 (Es (ga hn).1) (Es (ga hn).2) K []) (aI (kK fun _ _ K hn=>G5 (ga hn).1 (ga hn).2 K []) (aI (MD fun _ K hn=>E5 (Es (aiC hn)) K []) (aI acg
 (aI (kK fun _ _ K hn=>DD (ga hn).1 (ga hn).2 K) (aI ai4 (aI YX bB)))))))))
theorem uE:bq P rR:=aI (kK fun _ _ K hn=>Eh (ga hn).1 (ga hn).2 K) (aI (kK fun _ _ K hn=>IL (ga hn).1 (ga hn).2 K) (aI (kK fun _ _ K hn=>PT (ga hn).1 (ga hn).2 K)
 (aI (kK fun _ _ K hn=>HM (MC (ga hn).1) (MC (ga hn).2) K []) (aI (kK fun _ _ K hn=>Ju (ga hn).1 (ga hn).2 K) (aI (MD fun _ K _=>Fy K []) (aI (Gl H9) bB))))))
end Go.Am.B
namespace Go.Am.B
def cj (n:Nat) (f:Nat->Rat):Rat:=match n with
 |0=>0
 |n+1=>cj n f+f n
theorem rB {f g:Nat->Rat}:∀{n:Nat},(∀i,i<n->f i=g i)->cj n f=cj n g
 |0,_=>rfl
 |n+1,h=>by rw[cj,cj,rB fun i hi=>h i (by omega),h n (by omega)]
theorem Gw {f g:Nat->Rat}:∀{n:Nat},cj n (fun i=>f i+g i)=cj n f+cj n g
 |0=>by simp only[cj];grind
 |n+1=>by rw[cj,cj,cj,Gw];grind
theorem FV {f:Nat->Rat}:∀{n:Nat},cj (n+1) f=f 0+cj n fun i=>f (i+1)
 |0=>by simp only[cj];grind
 |n+1=>by rw[cj,FV,cj];grind
theorem DK {f:Nat->Rat}:∀{n:Nat},(∀i,i<n->f i=0)->cj n f=0
 |0,_=>rfl
 |n+1,h=>by rw[cj,DK fun i hi=>h i (by omega),h n (by omega)];grind
structure Kn (n p:Nat) (k:Nat->Rat):Prop where
 p1:1<=p
 len:2*p+2<=n
 sorted:∀i,i+1<n->k i<=k (i+1)
 first:∀i,i<=p->k i=k 0
 last:∀i,n<=i+p+1->i<n->k i=k (n-1)
 mult:∀i,1<=i->i+p+1<n->k i<k (i+p)
theorem gM {n:Nat} {k:Nat->Rat} (h:∀i,i+1<n->k i<=k (i+1)) {i:Nat}:∀{j:Nat},i<=j->j<n->k i<=k j
 |0,hij,_=>by
    have:i=0:=by omega
    subst this;exact Rat.le_refl
 |j+1,hij,hj=>by
  by_cases he:i=j+1
  ·subst he;exact Rat.le_refl
  ·exact Rat.le_trans (gM h (j:=j) (by omega) (by omega)) (h j hj)
theorem Kn.mono {n p:Nat} {k:Nat->Rat} (h:Kn n p k) {i j:Nat} (hij:i<=j) (hj:j<n):k i<=k j:=gM h.sorted hij hj
def fr (a b t:Rat):Rat:=(t-a)/(b-a)
theorem nK {a b t:Rat} (h:a<b):fr a b t*(b-a)=t-a:=by
 unfold fr;rw[Rat.div_mul_cancel];intro e;grind
theorem GI {a b:Rat}:fr a b a=0:=by
 unfold fr;rw[Rat.sub_self,Rat.div_def,Rat.zero_mul]
theorem MA {a b:Rat} (h:a<b):fr a b b=1:=by
 unfold fr;rw[Rat.div_def,Rat.mul_inv_cancel];intro e;grind
theorem Il {a b t:Rat} (h:a<b) (h0:a<=t):0<=fr a b t:=by
 have e:=nK (t:=t) h
 rcases Rat.le_total (a:=0) (b:=fr a b t)with h1|h1
 ·exact h1
 ·by_cases h2:fr a b t=0
  ·rw[h2];exact Rat.le_refl
  ·have:=Rat.mul_pos (a:=-fr a b t) (b:=b-a) (by grind) (by grind)
   grind
theorem Oy {a b t:Rat} (h:a<b) (h0:t<=b):fr a b t<=1:=by
 have e:=nK (t:=t) h
 rcases Rat.le_total (a:=fr a b t) (b:=1)with h1|h1
 ·exact h1
 ·by_cases h2:fr a b t=1
  ·rw[h2];exact Rat.le_refl
  ·have:=Rat.mul_pos (a:=fr a b t-1) (b:=b-a) (by grind) (by grind)
   grind
def vB (k:Nat->Rat) (i:Nat) (t:Rat):Nat->Nat->Rat
 |0,j=>if j=0 then 1 else 0
 |d+1,j=>(if j=0 then 0 else fr (k (i-d+(j-1))) (k (i-d+(j-1)+(d+1))) t*vB k i t d (j-1))+
   (if j<=d then(1-fr (k (i-d+j)) (k (i-d+j+(d+1))) t)*vB k i t d j else 0)
theorem vZ {k:Nat->Rat} {i:Nat} {t:Rat}:∀{d j:Nat},d<j->vB k i t d j=0
 |0,j,h=>by unfold vB;rw[if_neg (by omega)]
 |d+1,j,h=>by
  unfold vB
  rw[if_neg (by omega),if_neg (by omega),vZ (d:=d) (j:=j-1) (by omega)];grind
theorem pR {k:Nat->Rat} {i:Nat} {t:Rat} {d j:Nat}:vB k i t (d+1) (j+1)=fr (k (i-d+j)) (k (i-d+j+(d+1))) t*vB k i t d j+(1-fr (k (i-d+(j+1))) (k (i-d+(j+1)+(d+1))) t)*vB k i t d (j+1):=by
 rw[vB,if_neg (by omega),Nat.add_sub_cancel]
 by_cases h:j+1<=d
 ·rw[if_pos h]
 ·rw[if_neg h,vZ (d:=d) (j:=j+1) (by omega)];grind
theorem vI {k:Nat->Rat} {i:Nat} {t:Rat} {d:Nat}:vB k i t (d+1) 0=(1-fr (k (i-d)) (k (i-d+(d+1))) t)*vB k i t d 0:=by
 rw[vB,if_pos rfl,if_pos (by omega)];simp only[Nat.add_zero];grind
theorem Pf {k:Nat->Rat} {i:Nat} {t:Rat} {d:Nat} {c:Nat->Rat}:
  cj (d+2) (fun j=>c j*vB k i t (d+1) j)=
   cj (d+1) fun j=>(c (j+1)*fr (k (i-d+j)) (k (i-d+j+(d+1))) t+c j*(1-fr (k (i-d+j)) (k (i-d+j+(d+1))) t))*vB k i t d j:=by
 rw[FV,vI]
 have h1:cj (d+1) (fun j=>c (j+1)*vB k i t (d+1) (j+1))=
   cj (d+1) (fun j=>c (j+1)*(fr (k (i-d+j)) (k (i-d+j+(d+1))) t*vB k i t d j))+cj (d+1) (fun j=>c (j+1)*((1-fr (k (i-d+(j+1))) (k (i-d+(j+1)+(d+1))) t)*vB k i t d (j+1))):=by
  rw[<-Gw]
  refine rB fun j _=>?_
  rw[pR];grind
 have h2:cj (d+2) (fun j=>c j*((1-fr (k (i-d+j)) (k (i-d+j+(d+1))) t)*vB k i t d j))=
   c 0*((1-fr (k (i-d)) (k (i-d+(d+1))) t)*vB k i t d 0)+cj (d+1) (fun j=>c (j+1)*((1-fr (k (i-d+(j+1))) (k (i-d+(j+1)+(d+1))) t)*vB k i t d (j+1))):=by
  rw[FV];rfl
 have h3:cj (d+2) (fun j=>c j*((1-fr (k (i-d+j)) (k (i-d+j+(d+1))) t)*vB k i t d j))=
   cj (d+1) (fun j=>c j*((1-fr (k (i-d+j)) (k (i-d+j+(d+1))) t)*vB k i t d j)):=by
  rw[cj,vZ (d:=d) (j:=d+1) (by omega)];grind
 have h4:cj (d+1) (fun j=>(c (j+1)*fr (k (i-d+j)) (k (i-d+j+(d+1))) t+c j*(1-fr (k (i-d+j)) (k (i-d+j+(d+1))) t))*vB k i t d j)=
   cj (d+1) (fun j=>c (j+1)*(fr (k (i-d+j)) (k (i-d+j+(d+1))) t*vB k i t d j))+cj (d+1) (fun j=>c j*((1-fr (k (i-d+j)) (k (i-d+j+(d+1))) t)*vB k i t d j)):=by
  rw[<-Gw]
  exact rB fun j _=>by grind
 rw[h1,h4,<-h3,h2];grind
theorem Qn {k:Nat->Rat} {i:Nat} {t:Rat}:∀{d:Nat},cj (d+1) (vB k i t d)=1
 |0=>by simp only[cj,vB,if_true];grind
 |d+1=>by
  have h:=Pf (k:=k) (i:=i) (t:=t) (d:=d) (c:=fun _=>1)
  have h1:cj (d+2) (vB k i t (d+1))=cj (d+2) (fun j=>1*vB k i t (d+1) j):=rB fun j _=>by grind
  have e:∀f x:Rat,(1*f+1*(1-f))*x=x:=fun f x=>by grind
  rw[h1,h]
  exact(rB fun j _=>e _ _).trans (Qn (k:=k) (i:=i) (t:=t) (d:=d))
structure At (n:Nat) (k:Nat->Rat) (i:Nat):Prop where
 lt:i+1<n
 sorted:∀i,i+1<n->k i<=k (i+1)
 wide:k i<k (i+1)
theorem At.around {n:Nat} {k:Nat->Rat} {i:Nat} (h:At n k i) {a b:Nat} (ha:a<=i) (hb:i<b) (hn:b<n):k a<k b:=by
 have h1:=gM h.sorted ha (show i<n by have:=h.lt;omega)
 have h2:=gM h.sorted (show i+1<=b by omega) hn
 have h3:=h.wide
 grind
theorem HR {n:Nat} {k:Nat->Rat} {i:Nat} (h:At n k i) {t:Rat} (h0:k i<=t) (h1:t<=k (i+1)):∀{d:Nat},d<=i->i+d<n->∀j,0<=vB k i t d j
 |0,_,_,j=>by unfold vB;split<;>decide
 |d+1,hd,hn,j=>by
  have ih:=HR h h0 h1 (d:=d) (by omega) (by omega)
  have key:∀j,j<=d->0<=fr (k (i-d+j)) (k (i-d+j+(d+1))) t/\fr (k (i-d+j)) (k (i-d+j+(d+1))) t<=1:=fun j hj=>by
   have hlt:=h.around (a:=i-d+j) (b:=i-d+j+(d+1)) (by omega) (by omega) (by omega)
   have g1:=gM h.sorted (show i-d+j<=i by omega) (show i<n by omega)
   have g2:=gM h.sorted (show i+1<=i-d+j+(d+1) by omega) (by omega)
   exact⟨Il hlt (Rat.le_trans g1 h0),Oy hlt (Rat.le_trans h1 g2)⟩
  cases j with
  |zero=>
   rw[vI]
   have:=key 0 (by omega)
   simp only[Nat.add_zero]at this
   exact Rat.mul_nonneg (by grind) (ih 0)
  |succ j=>
   rw[pR]
   have a1:0<=fr (k (i-d+j)) (k (i-d+j+(d+1))) t*vB k i t d j:=by
    by_cases hj:j<=d
    ·exact Rat.mul_nonneg (key j hj).1 (ih j)
    ·rw[vZ (d:=d) (j:=j) (by omega),Rat.mul_zero];exact Rat.le_refl
   have a2:0<=(1-fr (k (i-d+(j+1))) (k (i-d+(j+1)+(d+1))) t)*vB k i t d (j+1):=by
    by_cases hj:j+1<=d
    ·have:=(key (j+1) hj).2
     exact Rat.mul_nonneg (by grind) (ih (j+1))
    ·rw[vZ (d:=d) (j:=j+1) (by omega),Rat.mul_zero];exact Rat.le_refl
   grind
def gm (k:Nat->Rat) (b p r:Nat) (t:Rat) (x:Nat->Rat) (j:Nat):Rat:=
 if r<j then x (j-1)+fr (k (b+j)) (k (b+j+(p-r))) t*(x j-x (j-1))else x j
def bl (k:Nat->Rat) (b p:Nat):Nat->(Nat->Rat)->List Rat->Nat->Rat
 |_,x,[]=>x
 |r,x,t::l=>bl k b p (r+1) (gm k b p r t x) l
def bZ (t:Nat->Rat):Nat->Nat->List Rat
 |_,0=>[]
 |a,l+1=>t a::bZ t (a+1) l
def bR (k:Nat->Rat) (b p:Nat) (t:Nat->Rat) (x:Nat->Rat):Nat->Nat->Rat
 |0=>x
 |r+1=>gm k b p r (t r) (bR k b p t x r)
variable {k:Nat->Rat} {b p:Nat}
theorem O0 {t x:Nat->Rat}:∀{l r:Nat},bl k b p r (bR k b p t x r) (bZ t r l)=bR k b p t x (r+l)
 |0,r=>rfl
 |l+1,r=>by
  have:=O0 (t:=t) (x:=x) (l:=l) (r:=r+1)
  rw[show r+(l+1)=r+1+l by omega,<-this];rfl
theorem Nr {t x:Nat->Rat} {l:Nat}:bR k b p t x l=bl k b p 0 x (bZ t 0 l):=by
 have:=O0 (k:=k) (b:=b) (p:=p) (t:=t) (x:=x) (l:=l) (r:=0)
 rw[Nat.zero_add]at this
 exact this.symm
theorem Cb:∀{l:List Rat} {r:Nat} {x y:Nat->Rat},r+l.length=p->(∀j,r<=j->j<=p->x j=y j)->bl k b p r x l p=bl k b p r y l p
 |[],r,x,y,hl,h=>h p (by simp at hl;omega) (Nat.le_refl _)
 |t::l,r,x,y,hl,h=>by
  refine Cb (l:=l) (r:=r+1) (by simp at hl;omega) fun j h1 h2=>?_
  unfold gm
  rw[if_pos (by omega),if_pos (by omega),h j (by omega) h2,h (j-1) (by omega) (by omega)]
theorem LB {x y u v:Rat} (hu:u≠0) (hv:v≠0) (h:x*(u*v)=y*(u*v)):x=y:=by
 have:(x-y)*(u*v)=0:=by grind
 simp only[Rat.mul_eq_zero]at this
 rcases this with h1|h1|h1
 ·grind
 ·exact absurd h1 hu
 ·exact absurd h1 hv
theorem ag8 {a1 a2 b1 b2 s t x0 x1 x2:Rat} (h1:a1<b1) (h2:a2<b1) (h3:a2<b2):
  x0+fr a1 b1 s*(x1-x0)+fr a2 b1 t*(x1+fr a2 b2 s*(x2-x1)-(x0+fr a1 b1 s*(x1-x0)))=
   x0+fr a1 b1 t*(x1-x0)+fr a2 b1 s*(x1+fr a2 b2 t*(x2-x1)-(x0+fr a1 b1 t*(x1-x0))):=by
 have n1:b1-a1≠0:=by intro e;grind
 have n2:b1-a2≠0:=by intro e;grind
 have n3:b2-a2≠0:=by intro e;grind
 have e1:=nK (t:=s) h1
 have e2:=nK (t:=t) h1
 have e3:=nK (t:=s) h2
 have e4:=nK (t:=t) h2
 have e5:=nK (t:=s) h3
 have e6:=nK (t:=t) h3
 generalize fr a1 b1 s=f1s at*
 generalize fr a1 b1 t=f1t at*
 generalize fr a2 b1 s=gs at*
 generalize fr a2 b1 t=gt at*
 generalize fr a2 b2 s=f2s at*
 generalize fr a2 b2 t=f2t at*
 have c0:(1-gt)*(1-f1s)=(1-gs)*(1-f1t):=by
  refine LB n2 n1 ?_
  have q1:(1-gt)*(b1-a2)=b1-t:=by grind
  have q2:(1-f1s)*(b1-a1)=b1-s:=by grind
  have q3:(1-gs)*(b1-a2)=b1-s:=by grind
  have q4:(1-f1t)*(b1-a1)=b1-t:=by grind
  have l1:(1-gt)*(1-f1s)*((b1-a2)*(b1-a1))=((1-gt)*(b1-a2))*((1-f1s)*(b1-a1)):=by grind
  have l2:(1-gs)*(1-f1t)*((b1-a2)*(b1-a1))=((1-gs)*(b1-a2))*((1-f1t)*(b1-a1)):=by grind
  rw[l1,l2,q1,q2,q3,q4];grind
 have c2:gt*f2s=gs*f2t:=by
  refine LB n2 n3 ?_
  have l1:gt*f2s*((b1-a2)*(b2-a2))=(gt*(b1-a2))*(f2s*(b2-a2)):=by grind
  have l2:gs*f2t*((b1-a2)*(b2-a2))=(gs*(b1-a2))*(f2t*(b2-a2)):=by grind
  rw[l1,l2,e3,e4,e5,e6];grind
 have f1:x0+f1s*(x1-x0)+gt*(x1+f2s*(x2-x1)-(x0+f1s*(x1-x0)))=((1-gt)*(1-f1s))*x0+(1-(1-gt)*(1-f1s)-gt*f2s)*x1+(gt*f2s)*x2:=by grind
 have f2:x0+f1t*(x1-x0)+gs*(x1+f2t*(x2-x1)-(x0+f1t*(x1-x0)))=((1-gs)*(1-f1t))*x0+(1-(1-gs)*(1-f1t)-gs*f2t)*x1+(gs*f2t)*x2:=by grind
 rw[f1,f2,c0,c2]
variable {n:Nat}
theorem Rp (h:At n k (b+p)) (hn:b+p+p<n) {s t:Rat} {x:Nat->Rat} {r j:Nat} (h1:r+2<=j) (h2:j<=p):
  gm k b p (r+1) t (gm k b p r s x) j=gm k b p (r+1) s (gm k b p r t x) j:=by
 have a1:=h.around (a:=b+(j-1)) (b:=b+(j-1)+(p-r)) (by omega) (by omega) (by omega)
 have a2:=h.around (a:=b+j) (b:=b+j+(p-(r+1))) (by omega) (by omega) (by omega)
 have a3:=h.around (a:=b+j) (b:=b+j+(p-r)) (by omega) (by omega) (by omega)
 have e:b+j+(p-(r+1))=b+(j-1)+(p-r):=by omega
 rw[e]at a2
 simp only[gm]
 rw[if_pos (by omega),if_pos (by omega),if_pos (by omega),if_pos (by omega),if_pos (by omega),if_pos (by omega),e]
 exact ag8 a1 a2 a3
theorem Ck (h:At n k (b+p)) (hn:b+p+p<n) {l m:List Rat} (hp:l.Perm m):∀{r:Nat} {x:Nat->Rat},r+l.length=p->bl k b p r x l p=bl k b p r x m p:=by
 induction hp with
 |nil=>intro r x _;rfl
 |cons t _ ih=>intro r x hl;exact ih (by simp at hl;omega)
 |swap s t l=>
  intro r x hl
  refine Cb (l:=l) (r:=r+2) (by simp at hl;omega) fun j h1 h2=>?_
  exact Rp h hn h1 h2
 |trans h1 h2 ih1 ih2=>intro r x hl;rw[ih1 hl,ih2 (by rw[<-h1.length_eq];exact hl)]
def p8 (t:Nat->Rat) (a:Nat):Nat->List Rat
 |0=>[]
 |l+1=>t (a+l)::p8 t a l
theorem Bw {t:Nat->Rat}:∀{l a:Nat},bZ t a (l+1)=bZ t a l++[t (a+l)]
 |0,a=>rfl
 |l+1,a=>by
  rw[bZ,Bw (l:=l) (a:=a+1),bZ,List.cons_append,show a+1+l=a+(l+1) by omega]
theorem Hy {t:Nat->Rat} {a:Nat}:∀{l:Nat},(p8 t a l).Perm (bZ t a l)
 |0=>.nil
 |l+1=>by
  rw[Bw,p8]
  exact((Hy (l:=l)).cons _).trans (List.perm_append_singleton _ _).symm
theorem zW {t:Nat->Rat} {m:Nat}:∀{l a:Nat},bZ t a (l+m)=bZ t a l++bZ t (a+l) m
 |0,a=>by rw[Nat.zero_add];rfl
 |l+1,a=>by
  rw[show l+1+m=(l+m)+1 by omega,bZ,zW (l:=l) (a:=a+1),bZ,List.cons_append,show a+1+l=a+(l+1) by omega]
theorem jC {t:Nat->Rat}:∀{l a:Nat},(bZ t a l).length=l
 |0,_=>rfl
 |l+1,a=>by rw[bZ,List.length_cons,jC]
theorem ai9 {l m:List Rat}:∀{r:Nat} {x:Nat->Rat},bl k b p r x (l++m)=bl k b p (r+l.length) (bl k b p r x l) m:=by
 induction l with
 |nil=>intro r x;rfl
 |cons t l ih=>
  intro r x
  rw[List.cons_append,bl,ih,bl,List.length_cons,show r+1+l.length=r+(l.length+1) by omega]
theorem IV (h:At n k (b+p)) (hn:b+p+p<n) {J:Nat} (hJ:J<=p):∀{l r:Nat} {x:Nat->Rat},r+l=J->bl k b p r x (p8 k (b+p+1) l) J=x J
 |0,r,x,_=>rfl
 |l+1,r,x,hr=>by
  rw[p8,bl,IV h hn hJ (l:=l) (r:=r+1) (by omega)]
  unfold gm
  have a1:=h.around (a:=b+J) (b:=b+J+(p-r)) (by omega) (by omega) (by omega)
  rw[if_pos (by omega),show b+p+1+l=b+J+(p-r) by omega,MA a1];grind
theorem Jh {J:Nat}:∀{l q:Nat} {x:Nat->Rat},bl k b p (J+q) x (bZ k (b+J+1+q) l) (J+q+l)=x (J+q)
 |0,q,x=>rfl
 |l+1,q,x=>by
  have ih:=Jh (J:=J) (l:=l) (q:=q+1) (x:=gm k b p (J+q) (k (b+J+1+q)) x)
  rw[bZ,bl,show J+q+(l+1)=J+(q+1)+l by omega,show J+q+1=J+(q+1) by omega,show b+J+1+q+1=b+J+1+(q+1) by omega,ih]
  unfold gm
  rw[if_pos (by omega),show b+J+1+q=b+(J+(q+1)) by omega,GI,show J+(q+1)-1=J+q by omega];grind
theorem acV (h:At n k (b+p)) (hn:b+p+p<n) {J:Nat} (hJ:J<=p) {x:Nat->Rat}:bl k b p 0 x (bZ k (b+J+1) p) p=x J:=by
 have e:bZ k (b+J+1) p=bZ k (b+J+1) (p-J)++bZ k (b+p+1) J:=by
  have:=zW (t:=k) (l:=p-J) (a:=b+J+1) (m:=J)
  rw[show p-J+J=p by omega,show b+J+1+(p-J)=b+p+1 by omega]at this
  exact this
 have hp:(bZ k (b+J+1) p).Perm (p8 k (b+p+1) J++bZ k (b+J+1) (p-J)):=by
  rw[e]
  exact(List.perm_append_comm).trans ((Hy).symm.append_right _)
 rw[Ck h hn hp (by rw[jC];omega),ai9]
 have hd:(p8 k (b+p+1) J).length=J:=by rw[(Hy).length_eq,jC]
 rw[hd,Nat.zero_add]
 have:=Jh (k:=k) (b:=b) (p:=p) (J:=J) (l:=p-J) (q:=0) (x:=bl k b p 0 x (p8 k (b+p+1) J))
 simp only[Nat.add_zero]at this
 rw[show J+(p-J)=p by omega]at this
 rw[this]
 exact IV h hn hJ (l:=J) (r:=0) (by omega)
theorem diag (i:Nat) (hi:b+p=i) (t:Rat) {x:Nat->Rat}:∀{r:Nat},r<=p->cj (p-r+1) (fun j=>bR k b p (fun _=>t) x r (r+j)*vB k i t (p-r) j)=cj (p+1) fun j=>x j*vB k i t p j
 |0,_=>by simp only[Nat.sub_zero,Nat.zero_add];rfl
 |r+1,hr=>by
  rw[<-diag i hi t (x:=x) (r:=r) (by omega)]
  obtain⟨d,hd⟩:∃d,p-r=d+1:=⟨p-r-1,by omega⟩
  rw[show p-(r+1)=d by omega,hd,Pf]
  refine rB fun j hj=>?_
  rw[bR,gm,if_pos (by omega),show r+1+j-1=r+j by omega,show b+(r+1+j)=i-d+j by omega,hd,show r+(j+1)=r+1+j by omega]
  grind
theorem adQ (i:Nat) (hi:b+p=i) (t:Rat) {x:Nat->Rat}:bR k b p (fun _=>t) x p p=cj (p+1) fun j=>x j*vB k i t p j:=by
 rw[<-diag i hi t (r:=p) (Nat.le_refl _),Nat.sub_self]
 simp only[cj,vB,Nat.add_zero,if_true];grind
end Go.Am.B
namespace Go.Am.B
def mC (g:Nat->Bool):Nat->Nat
 |0=>0
 |m+1=>if g m then m else mC g m
theorem KR {g:Nat->Bool} {i:Nat} (hi:g i=true):∀{m:Nat},i<m->(∀j,i<j->j<m->g j=false)->mC g m=i
 |0,h,_=>by omega
 |m+1,h,hn=>by
  unfold mC
  by_cases he:i=m
  ·subst he;rw[if_pos hi]
  ·rw[if_neg (by rw[hn m (by omega) (by omega)];decide),KR hi (m:=m) (by omega) fun j h1 h2=>hn j h1 (by omega)]
def bL (n:Nat) (k:Nat->Rat) (t:Rat):Nat:=mC (fun i=>decide (k i<k (i+1))&&decide (k i<=t)) (n-1)
structure Bv (n:Nat) (k:Nat->Rat) (t:Rat) (i:Nat):Prop where
 at_:At n k i
 lo:k i<=t
 hi:t<=k (i+1)
 Fg:t<k (i+1)\/k (i+1)=k (n-1)
theorem o5 {n:Nat} {k:Nat->Rat} {t:Rat} {i:Nat} (h:Bv n k t i):bL n k t=i:=by
 have hw:=h.at_.wide
 have hlo:=h.lo
 refine KR (by simp[hw,hlo]) (by have:=h.at_.lt;omega) fun j h1 h2=>?_
 rcases h.Fg with h3|h3
 ·have:=gM h.at_.sorted (show i+1<=j by omega) (show j<n by omega)
  have:¬k j<=t:=by grind
  simp[this]
 ·have a1:=gM h.at_.sorted (show i+1<=j by omega) (show j<n by omega)
  have a2:=gM h.at_.sorted (show j+1<=n-1 by omega) (show n-1<n by omega)
  have:¬k j<k (j+1):=by grind
  simp[this]
theorem HP {g:Nat->Bool}:∀{m:Nat},(∃i,i<m/\g i=true)->g (mC g m)=true/\mC g m<m/\∀j,mC g m<j->j<m->g j=false
 |0,⟨i,h,_⟩=>by omega
 |m+1,⟨i,h,hi⟩=>by
  unfold mC
  by_cases hm:g m=true
  ·rw[if_pos hm];exact⟨hm,by omega,fun j h1 h2=>by omega⟩
  ·rw[if_neg hm]
   have hi':i<m:=by
    by_cases he:i=m
    ·subst he;exact absurd hi hm
    ·omega
   obtain⟨a1,a2,a3⟩:=HP (g:=g) (m:=m) ⟨i,hi',hi⟩
   refine⟨a1,by omega,fun j h1 h2=>?_⟩
   by_cases he:j=m
   ·subst he;simpa using hm
   ·exact a3 j h1 (by omega)
theorem Kn.CP {n p:Nat} {k:Nat->Rat} (h:Kn n p k) {t:Rat} (h0:k 0<=t) (h1:t<=k (n-1)):Bv n k t (bL n k t)/\p<=bL n k t/\bL n k t+p+1<n:=by
 have hp:=h.p1
 have hl:=h.len
 have hw:k p<k (p+1):=by
  have:=h.mult 1 (by omega) (by omega)
  rw[h.first 1 (by omega),show 1+p=p+1 by omega]at this
  rw[h.first p (by omega)];exact this
 obtain⟨a1,a2,a3⟩:=HP (g:=fun i=>decide (k i<k (i+1))&&decide (k i<=t)) (m:=n-1) ⟨p,by omega,by rw[h.first p (by omega)]at*;simp[hw,h0]⟩
 have e:bL n k t=mC (fun i=>decide (k i<k (i+1))&&decide (k i<=t)) (n-1):=rfl
 rw[<-e]at a1 a2 a3
 generalize bL n k t=i at*
 simp only[Bool.and_eq_true,decide_eq_true_eq]at a1
 have hat:At n k i:=⟨by omega,h.sorted,a1.1⟩
 -- from the next knot on
 have key:t<k (i+1)\/k (i+1)=k (n-1):=by
  by_cases ht:t<k (i+1)
  ·exact .inl ht
  ·refine .inr ?_
   have step:∀j,i+1<=j->j<=n-1->k j=k (i+1):=by
    intro j hj1 hj2
    induction j with
    |zero=>omega
    |succ j ih=>
     by_cases hji:j+1=i+1
     ·rw[hji]
     ·have e1:=ih (by omega) (by omega)
      have:=a3 j (by omega) (by omega)
      have hs:=h.sorted j (by omega)
      by_cases hlt:k j<k (j+1)
      ·simp[hlt]at this
       grind
      ·grind
   exact(step (n-1) (by omega) (by omega)).symm
 have hi2:t<=k (i+1):=by rcases key with h2|h2<;>grind
 refine⟨⟨hat,a1.2,hi2,key⟩,?_,?_⟩
 ·by_cases hge:p<=i
  ·exact hge
  ·exfalso
   have:=h.first i (by omega)
   have:=h.first (i+1) (by omega)
   have:=a1.1
   grind
 ·by_cases hge:i+p+1<n
  ·exact hge
  ·exfalso
   have:=h.last i (by omega) (by omega)
   have:=h.last (i+1) (by omega) (by omega)
   have:=a1.1
   grind
structure KG (p j:Nat) (k:Nat->Rat) (t:Rat):Prop where
 p1:1<=p
 first:∀i,i<=p->k i=k 0
 top:k (p+j)=t
 sorted:∀i,i<p+j->k i<=k (i+1)
 mult:∀i,1<=i->i<=j->k i<k (i+p)
 half:∀i,i<=p+j->∃z:Int,k i=(z:Rat)/2/\-4<=z/\z<=2+6*(j:Int)
def jK (k:Nat->Rat) (m:Nat) (t:Rat):Nat->Rat:=fun i=>if i=m then t else k i
theorem ou {k:Nat->Rat} {m:Nat} {t:Rat}:jK k m t m=t:=if_pos rfl
theorem iY {k:Nat->Rat} {m i:Nat} {t:Rat} (h:i≠m):jK k m t i=k i:=if_neg h
theorem KG.start {p:Nat} (hp:1<=p) {z:Int} (h1:-2<=z) (h2:z<=1):KG p 0 (fun _=>(z:Rat)) (z:Rat) where
 p1:=hp
 first:=fun _ _=>rfl
 top:=rfl
 sorted:=fun _ _=>Rat.le_refl
 mult:=fun i h1 h2=>by omega
 half:=fun i _=>⟨2*z,by
  have:((2*z:Int):Rat)=2*(z:Rat):=by simp
  rw[this];grind,by omega,by omega⟩
theorem KG.le_top {p j:Nat} {k:Nat->Rat} {t:Rat} (h:KG p j k t) {i:Nat} (hi:i<=p+j):k i<=t:=by
 rw[<-h.top]
 exact gM (n:=p+j+1) (fun i hi=>h.sorted i (by omega)) hi (by omega)
theorem KG.next {p j:Nat} {k:Nat->Rat} {t t':Rat} (h:KG p j k t) (hc:(t<t'/\∃z:Int,t'=t+(z:Rat)/2/\z<=6)\/(t'=t/\1<=j/\t≠k (j+1))):KG p (j+1) (jK k (p+1+j) t') t':=by
 have hle:t<=t':=by
  rcases hc with⟨h1,_⟩|⟨h1,_⟩
  ·grind
  ·rw[h1];exact Rat.le_refl
 have hp:=h.p1
 refine⟨hp,fun i hi=>?_,?_,fun i hi=>?_,fun i h1 h2=>?_,fun i hi=>?_⟩
 ·rw[iY (by omega),iY (by omega)];exact h.first i hi
 ·rw[show p+(j+1)=p+1+j by omega,ou]
 ·by_cases he:i+1=p+1+j
  ·rw[he,ou,iY (by omega),show i=p+j by omega,h.top];exact hle
  ·rw[iY (by omega),iY he];exact h.sorted i (by omega)
 ·by_cases he:i=j+1
  ·subst he
   rw[show j+1+p=p+1+j by omega,ou,iY (by omega)]
   have:=h.le_top (i:=j+1) (by omega)
   rcases hc with⟨h3,_⟩|⟨h3,h4,h5⟩
   ·grind
   ·rw[h3];grind
  ·rw[iY (by omega),iY (by omega)];exact h.mult i h1 (by omega)
 ·by_cases he:i=p+1+j
  ·subst he
   rw[ou]
   obtain⟨z,e1,e2,e3⟩:=h.half (p+j) (by omega)
   rw[h.top]at e1
   rcases hc with⟨h3,y,e4,e5⟩|⟨h3,_⟩
   ·refine⟨z+y,?_,?_,by omega⟩
    ·rw[e4,e1]
     have:((z+y:Int):Rat)=(z:Rat)+(y:Rat):=by simp
     rw[this];grind
    ·have hy:0<y:=by
      rcases Int.lt_or_le 0 y with h6|h6
      ·exact h6
      ·exfalso
       have:((y:Int):Rat)<=0:=Rat.intCast_nonpos.2 h6
       grind
     omega
   ·exact⟨z,by rw[h3,e1],e2,by omega⟩
  ·rw[iY he]
   obtain⟨z,e1,e2,e3⟩:=h.half i (by omega)
   exact⟨z,e1,e2,by omega⟩
def nu (p j:Nat) (k:Nat->Rat) (t:Rat):Nat->Rat:=fun i=>if i<p+1+j then k i else t+1
theorem KG.done {p j:Nat} {k:Nat->Rat} {t:Rat} (h:KG p j k t):Kn (2*p+2+j) p (nu p j k t):=by
 have hp:=h.p1
 have lo:∀{i},i<p+1+j->nu p j k t i=k i:=fun hi=>if_pos hi
 have hi':∀{i},p+1+j<=i->nu p j k t i=t+1:=fun hi=>if_neg (by omega)
 refine⟨hp,by omega,fun i hi=>?_,fun i hi=>?_,fun i h1 h2=>?_,fun i h1 h2=>?_⟩
 ·by_cases h1:i+1<p+1+j
  ·rw[lo h1,lo (by omega)];exact h.sorted i (by omega)
  ·rw[hi' (i:=i+1) (by omega)]
   by_cases h2:i<p+1+j
   ·rw[lo h2]
    have:=h.le_top (i:=i) (by omega)
    grind
   ·rw[hi' (by omega)];exact Rat.le_refl
 ·rw[lo (i:=i) (by omega),lo (i:=0) (by omega)];exact h.first i hi
 ·rw[hi' (i:=i) (by omega),hi' (i:=2*p+2+j-1) (by omega)]
 ·by_cases h3:i+p<p+1+j
  ·rw[lo (by omega),lo h3];exact h.mult i h1 (by omega)
  ·rw[hi' (i:=i+p) (by omega),lo (i:=i) (by omega)]
   have:=h.le_top (i:=i) (by omega)
   grind
theorem KG.FT {p j:Nat} {k:Nat->Rat} {t:Rat} (h:KG p j k t) (i:Nat):∃z:Int,nu p j k t i=(z:Rat)/2/\-4<=z/\z<=4+6*(j:Int):=by
 unfold nu
 split
 ·rename_i hi
  obtain⟨z,e1,e2,e3⟩:=h.half i (by omega)
  exact⟨z,e1,e2,by omega⟩
 ·obtain⟨z,e1,e2,e3⟩:=h.half (p+j) (by omega)
  rw[h.top]at e1
  refine⟨z+2,?_,by omega,by omega⟩
  have:((z+2:Int):Rat)=(z:Rat)+2:=by simp
  rw[e1,this];grind
open AV
def aE:AV->Rat
 |.rat q _=>q
 |_=>0
def bn (f:Nat->AV) (n s:Nat):Prop:=∀i,i<n->bh (f i) (.rat (aE (f i)) s)
abbrev bD (k:Nat->Rat) (n s:Nat):AV:=.ak 3 n (fun i=>.rat (k i) s)
theorem bI {k:Nat->Rat} {n s s':Nat} (h:s<=s'):bn (fun i=>.rat (k i) s) n s':=fun _ _=>ey h
theorem yK {f:Nat->AV} {n s:Nat} (h:bn f n s):bh (.ak 3 n f) (bD (fun i=>aE (f i)) n s):=fB h
def BM:AV->Option (Nat×(Nat->AV))
 |.ak 3 n f=>some (n,f)
 |.nil=>some (0,fun _=>.rat 0 1)
 |_=>none
theorem Uj {v:AV} {n s:Nat} {f:Nat->AV} (h:BM v=some (n,f)) (ha:bn f n s):bh v (bD (fun i=>aE (f i)) n s):=by
 unfold BM at h
 split at h
 ·simp only[ay,Prod.mk.injEq]at h
  obtain⟨rfl,rfl⟩:=h
  exact yK ha
 ·simp only[ay,Prod.mk.injEq]at h
  obtain⟨rfl,rfl⟩:=h
  exact iJ aa
 ·simp at h
end Go.Am.B
