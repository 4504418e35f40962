/- ref01: Div, Gcd: what their pieces come to. -/
import Derived.Test.YtolopdkjjlfgjaaGreatY6
import Derived.Test.YtolopdkjjlfgjaaGreatZ2
import Init
set_option linter.unusedVariables false
noncomputable section
namespace Go.Am.B
open Go Go.Am.N AV Proofs.Tryz IntKind
theorem agN:bu 174 f174:=bC func174
def nQ:bE:=[(84,Aj),(140,wI),(186,Gi),(138,y9),(156,Jm),(187,Ny),(188,NA),(190,Mz),(189,MC),(175,pE (fun A B=>.mag (A-B)) fun A B=>[B<=A,nl A<2^40]),(191,Me)]
abbrev rG:List Nat:=[1,1,1,1,1,1,1,1,1,0,1]
abbrev sL:Code:=part (aK f174) [1,1,1,1,1,1,1,1,1,0,1,0,0]
abbrev pN:Code:=part sL [1,0,0]
abbrev gF:List Nat:=[1,13,5,14,4,15]
abbrev j3 (V s R lq:Nat) (j:Int) (K:Nat):List AV:=[.mag V,.int .i64 s,.mag R,.int .i64 (nl V),.own K 1 0 lq,.int .i64 j]
theorem oI:bY P nQ:=aM C3 (aM A5 (aM LP (aM D8 (aM LS (aM acA (aM Xj (aM abC (aM adO (aM (sR fun h=>My h.1 h.2) (aM Vh cJ))))))))))
theorem aea {A B:Nat}:aL T nQ [21,25,33,49] 60 [0,1,4,5,6] ((before (aK f174) rG).take 5) ⟨aZ 0 [.mag A,.mag B],[],0⟩=
  let i:=(2:Int)^64;let f:=2^40;let e:=[int .i64 (0:Int)];let d:=(↑(aG B (Int.toNat (0:Int))):Int);let b:=(↑(if iT A=true then A else 0):Int);let a:=(↑(if iT B=true then B else 0):Int);let h:=u64.wrap (b.tdiv a);let g:=u64.wrap (↑(A%d.toNat):Int);some (ag.fork ((↑(nl B):Int)==0) (ag.leaf au.ret ([mag A,mag B,nil,nil,int .i64 (3:Int)],[])) (ag.aj [nl A<f,nl B<f] (ag.fork (decide (eu A B<0)) (ag.aj [nl A<f] (ag.leaf au.ret (mag A::mag B::nil::mag A::e,[]))) (ag.fork (iT A) (ag.aj [a≠(0:Int),(0:Int)<=h/\h<i,a≠(0:Int),(0:Int)<=b.tmod a/\b.tmod a<i] (ag.leaf au.ret (mag A::mag B::mag h.toNat::mag (b.tmod a).toNat::e,[]))) (ag.fork ((↑(nl B):Int)==1) (ag.aj [(0:Int)<=0/\Int.toNat (0:Int)<nl B,nl A<f,(0:Int)<d,d<2^32] (ag.aj [(0:Int)<=g/\g<i] (ag.leaf au.ret (mag A::mag B::mag (A/d.toNat)::mag g.toNat::e,[])))) (ag.leaf au.normal (mag A::mag B::nil::nil::e,[]))))))):=ah
theorem Tw {A B:Nat}:aL T nQ [] 60 [0,1,13] (((before (aK f174) rG).drop 5).take 1) ⟨aH [0,1] [.mag A,.mag B],[],0⟩=
  let a:=(↑(nl B):Int);let b:=i64.wrap (a-1);let d:=a.toNat-b.toNat;let e:=val d fun i=>numOf (int .u32 (↑(aG B (i+b.toNat)):Int));some (ag.aj [(0:Int)<=b/\b<=a/\a<=a/\a<=a,fL d fun i=>int .u32 (↑(aG B (i+b.toNat)):Int),d<2^40,nl e=d] (ag.leaf au.normal ([mag A,mag B,int .i64 (i64.wrap ((32:Int)-(↑(ck e):Int)))],[]))):=ah
theorem acK {A B s:Nat}:aL T nQ [] 60 gF ((before (aK f174) rG).drop (5+1)) ⟨aH [0,1,13] [.mag A,.mag B,.int .i64 s],[],0⟩=
  let d:=(↑s:Int);let f:=d<2^43;let b:=2^d.toNat;let e:=i64.wrap ((↑(nl (A*b)):Int)-(↑(nl (B*b)):Int));let a:=i64.wrap (e+1);some (ag.aj [nl B<2^39,(0:Int)<=d,f,nl A<2^39,(0:Int)<=d,f] (ag.aj [(0:Int)<=a/\a<=a/\a<=2^47/\a*(↑(4:Nat):Int)<=2^47] (ag.leaf au.normal ([mag (B*b),int .i64 d,mag (A*b),int .i64 (↑(nl (B*b)):Int),own 65536 1 0 a.toNat,int .i64 e],[(65536,aA.mk true true 1 a.toNat fun x=>int .u32 (0:Int))])))):=ah
theorem Yr {V s R lq m:Nat} {q:Nat->Nat}:aL T nQ [88] 60 gF [part sL [0]] ⟨aH gF (j3 V s R lq ((m:Int)-1) 7),eZ 7 lq q,8⟩=
  let d:=(↑m:Int)-1;let b:List AV×aI:=([mag V,int .i64 (↑s:Int),mag R,int .i64 (↑(nl V):Int),own 7 1 0 lq,int .i64 d],[(7,aA.mk true true 1 lq fun a=>int .u32 (↑(q a):Int))]);some (ag.fork (decide (d>=0)) (ag.leaf au.normal b) (ag.leaf (au.exit 0) b)):=ah
theorem WH {V s R lq j:Nat} {q:Nat->Nat}:aL T nQ [96,110] 60 (gF++[16]) ((before pN [1,1,1,1,1,0]).take 3) ⟨aH gF (j3 V s R lq (j:Nat) 7),eZ 7 lq q,8⟩=
  let e:=(2:Int)^min (Int.toNat (32:Int)) u64.bits;let b:=(0:Int)<=32;let o:=(↑(nl R):Int);let n:=int .i64 (↑s:Int);let m:=int .i64 (↑j:Int);let l:=int .i64 (↑(nl V):Int);let k:=own 7 1 0 lq;let i:Nat×aA:=(7,aA.mk true true 1 lq fun a=>int .u32 (↑(q a):Int));let h:=i64.wrap ((↑j:Int)+(↑(nl V):Int));let p:=u64.wrap (u64.wrap (↑(aG R h.toNat):Int)*e);let d:=i64.wrap (h-1);let g:=[b,(0:Int)<=d/\d.toNat<nl R];let f:BitVec u64.bits:=BitVec.ofInt u64.bits (u64.wrap (↑(aG R d.toNat):Int));some (ag.fork (decide (h<o)) (ag.aj [(0:Int)<=h/\h.toNat<nl R] (ag.fork (decide (d<o)) (ag.aj g (ag.leaf au.normal ([mag V,n,mag R,l,k,m,int .u64 (u64.wrap (↑(BitVec.ofInt u64.bits p|||f).toNat:Int))],[i]))) (ag.aj [b] (ag.leaf au.normal ([mag V,n,mag R,l,k,m,int .u64 p],[i]))))) (ag.fork (decide (d<o)) (ag.aj g (ag.leaf au.normal ([mag V,n,mag R,l,k,m,int .u64 (u64.wrap (↑(BitVec.ofInt u64.bits (u64.wrap ((0:Int)*e))|||f).toNat:Int))],[i]))) (ag.aj [b] (ag.leaf au.normal ([mag V,n,mag R,l,k,m,int .u64 (0:Int)],[i]))))):=ah
theorem aht {V s R lq j t:Nat} {q:Nat->Nat}:aL T nQ [] 60 (gF++[17]) (((before pN [1,1,1,1,1,0]).drop 3).take 1) ⟨aH (gF++[16]) (j3 V s R lq (j:Nat) 7++[.int .u64 t]),eZ 7 lq q,8⟩=
  let b:=i64.wrap ((↑(nl V):Int)-1);let d:=u64.wrap (↑(aG V b.toNat):Int);let e:=u64.wrap ((↑t:Int).tdiv d);some (ag.aj [(0:Int)<=b/\b.toNat<nl V,d≠(0:Int)] (ag.leaf au.normal ([mag V,int .i64 (↑s:Int),mag R,int .i64 (↑(nl V):Int),own 7 1 0 lq,int .i64 (↑j:Int),int .u64 (if(4294967295:Int)<e then(4294967295:Int)else e)],[(7,aA.mk true true 1 lq fun a=>int .u32 (↑(q a):Int))]))):=ah
theorem ag9 {V s R lq j d:Nat} {q:Nat->Nat}:aL T nQ [] 60 (gF++[17,18]) ((before pN [1,1,1,1,1,0]).drop (3+1)) ⟨aH (gF++[17]) (j3 V s R lq (j:Nat) 7++[.int .u64 d]),eZ 7 lq q,8⟩=
  let e:=(↑j:Int);let b:=u32.wrap (↑d:Int);some (ag.aj [nl V<2^39,(0:Int)<=b,b<2^32,nl (V*b.toNat)<2^40,(0:Int)<=e,e<2^40] (ag.leaf au.normal ([mag V,int .i64 (↑s:Int),mag R,int .i64 (↑(nl V):Int),own 7 1 0 lq,int .i64 e,int .u64 (↑d:Int),mag (V*b.toNat*2^((32:Nat)*e.toNat))],[(7,aA.mk true true 1 lq fun a=>int .u32 (↑(q a):Int))]))):=ah
theorem agH {V s R lq j d X:Nat} {q:Nat->Nat}:aL T nQ [142] 60 (gF++[17,18]) [part pN [1,1,1,1,1,0,0,0]] ⟨aH (gF++[17,18]) (j3 V s R lq (j:Nat) 7++[.int .u64 d,.mag X]),eZ 7 lq q,8⟩=
  let k:=int .i64 (↑s:Int);let b:=(↑j:Int);let i:=int .i64 (↑(nl V):Int);let h:=own 7 1 0 lq;let e:=2^40;let f:Nat×aA:=(7,aA.mk true true 1 lq fun a=>int .u32 (↑(q a):Int));let g:=V*2^((32:Nat)*b.toNat);some (ag.aj [nl X<e,nl R<e] (ag.fork (decide (eu X R>0)) (ag.aj [nl V<e,(0:Int)<=b,b<2^40,g<=X,nl X<e] (ag.leaf au.normal ([mag V,k,mag R,i,h,int .i64 b,int .u64 (u64.wrap ((↑d:Int)-1)),mag (X-g)],[f]))) (ag.leaf (au.exit 2) ([mag V,k,mag R,i,h,int .i64 b,int .u64 (↑d:Int),mag X],[f])))):=ah
theorem adT {V s R lq j d X:Nat} {q:Nat->Nat}:aL T nQ [] 60 gF (behind pN [1,1,1,1,1,0]) ⟨aH (gF++[17,18]) (j3 V s R lq (j:Nat) 7++[.int .u64 d,.mag X]),eZ 7 lq q,8⟩=
  let a:=(↑j:Int);let b:=a.toNat+0;some (ag.aj [(0:Int)<=a/\a.toNat<lq,b<lq] (ag.aj [X<=R,nl R<2^40] (ag.leaf au.normal ([mag V,int .i64 (↑s:Int),mag (R-X),int .i64 (↑(nl V):Int),own 7 1 0 lq,int .i64 a],[(7,aA.mk true true 1 lq fun j=>if(j==b)=true then int .u32 (u32.wrap (↑d:Int))else aF q j)])))):=ah
theorem Z7 {V s R lq j:Nat} {q:Nat->Nat}:aL T nQ [] 60 gF [part sL [1,1]] ⟨aH gF (j3 V s R lq (j:Nat) 7),eZ 7 lq q,8⟩=
  some (ag.leaf au.normal ([mag V,int .i64 (↑s:Int),mag R,int .i64 (↑(nl V):Int),own 7 1 0 lq,int .i64 (i64.wrap ((↑j:Int)-1))],[(7,aA.mk true true 1 lq fun a=>int .u32 (↑(q a):Int))])):=ah
theorem WC {V s R lq:Nat} {q:Nat->Nat} {j:Int}:dc T nQ [] 60 f174 (behind (aK f174) rG) ⟨aH gF (j3 V s R lq j 7),eZ 7 lq q,8⟩=
  some (ag.aj [fL lq fun i=>aF q (i+0),lq<2^40,nl R<2^40,(0:Int)<=(↑s:Int),(↑s:Int)<2^62] (ag.leaf au.ret [mag (val lq fun i=>numOf (aF q (i+0))),mag (R/2^(↑s:Int).toNat),int .i64 (0:Int)])):=ah
theorem ajs {R i:Nat} (h:R<2^(32*(i+2))):aG R (i+1)*4294967296+aG R i=R/2^(32*i):=by
 unfold aG
 have e:R/2^(32*(i+1))=R/2^(32*i)/4294967296:=by rw[Nat.div_div_eq_div_mul,show(4294967296:Nat)=2^32 from rfl,<-Nat.pow_add];congr 2
 rw[e]
 have h2:R/2^(32*i)<4294967296*4294967296:=by
  rw[Nat.div_lt_iff_lt_mul (Nat.two_pow_pos _),show(4294967296*4294967296:Nat)=2^64 from rfl,<-Nat.pow_add]
  rw[show 64+32*i=32*(i+2) by omega];exact h
 generalize R/2^(32*i)=X at*
 omega
theorem ZT {a b:Nat}:eu a b>0↔b<a:=by
 unfold eu
 split
 ·simp;omega
 ·split<;>simp_all
theorem afS {x:Nat} (h:4294967295<x):(4294967295:Int)<(x:Int):=aa
theorem aj8 {x:Nat} (h:¬4294967295<x):¬(4294967295:Int)<(x:Int):=aa
section pieces
variable {c:Ctx} (h0:∀nx k x,c.k0 k=some x->k<nx) {Q:au->aP->Prop} {V s R lq j:Nat} {q:Nat->Nat} {s':aP}
include h0 in
theorem S0 (hn:2<=nl V) (hnV:nl V<2^40) (hj:j<2^40) (hR:R<2^(32*(j+nl V+1)))
  (hv:bJ gF s'=some (j3 V s R lq j 7,eZ 7 lq q))
  (fin:∀s',bJ (gF++[16]) s'=some (j3 V s R lq j 7++[.int .u64 (R/2^(32*(j+nl V-1)):Nat)],eZ 7 lq q)->Q .normal s'):
  aJ P c f174.ntmps ((before pN [1,1,1,1,1,0]).take 3) s' Q:=by
 refine aJ.gL hT oI hm 60 hv (h0 _) rfl (jw aa) (gF++[16]) WH ah ah ?_
 have w1:i64.wrap ((j:Int)+(nl V:Int))=((j+nl V:Nat):Int):=gl aa aa
 have w2:i64.wrap (((j+nl V:Nat):Int)-1)=((j+nl V-1:Nat):Int):=gl aa aa
 have l1:=fB (N:=R) (i:=j+nl V)
 have l2:=fB (N:=R) (i:=j+nl V-1)
 have ht:=ajs (R:=R) (i:=j+nl V-1) (by rw[show j+nl V-1+2=j+nl V+1 by omega];exact hR)
 rw[show j+nl V-1+1=j+nl V by omega]at ht
 have wl:u64.wrap (aG R (j+nl V):Int)=((aG R (j+nl V):Nat):Int):=cR aa aa
 rw[w1,w2]
 simp only[ag.all,aC,bI,bR,bS]
 rw[wl,xN l1 l2]
 have hz:=xN (a:=0) (b:=aG R (j+nl V-1)) aa l2
 have ez:((0:Nat):Int)=0:=rfl
 rw[ez]at hz
 rw[hz]
 refine⟨fun h1=>⟨aa,fun h2=>⟨⟨aa,aa⟩,fun s' hv=>fin s' (fC hv ?_ rfl)⟩,fun h2=>aa⟩,fun h1=>⟨fun h2=>⟨⟨aa,aa⟩,fun s' hv=>fin s' (fC hv ?_ rfl)⟩,fun h2=>⟨aa,fun s' hv=>fin s' (fC hv ?_ rfl)⟩⟩⟩
 ·rw[ht];rfl
 ·rw[kO (A:=R) (i:=j+nl V) aa]at ht
  rw[ht];rfl
 ·rw[kO (A:=R) (i:=j+nl V) aa,kO (A:=R) (i:=j+nl V-1) aa]at ht
  rw[<-ht];rfl
include h0 in
theorem adu (hn:2<=nl V) (hnV:nl V<2^39) (hj:j<2^39) (hjq:j<lq) (hlq:lq<2^40) (hR:R<V*2^(32*(j+1))) (hv1:0<aG V (nl V-1))
  (hv:bJ gF s'=some (j3 V s R lq j 7,eZ 7 lq q))
  (fin:∀s',R/(V*2^(32*j))<4294967296->bJ gF s'=some (j3 V s (R%(V*2^(32*j))) lq j 7,eZ 7 lq (cX q j (R/(V*2^(32*j)))))->Q .normal s'):
  az P c f174.ntmps pN s' Q:=by
 have hV0:0<V:=Nat.pos_of_ne_zero (jc.1 aa)
 have hTp:0<2^(32*j):=Nat.two_pow_pos _
 have hVT:0<V*2^(32*j):=Nat.mul_pos hV0 hTp
 have hVl:V<2^(32*nl V):=oS
 have hR2:R<2^(32*(j+nl V+1)):=by
  refine Nat.lt_trans hR ?_
  rw[show 32*(j+nl V+1)=32*nl V+32*(j+1) by omega,Nat.pow_add]
  exact(Nat.mul_lt_mul_right (Nat.two_pow_pos _)).2 hVl
 have hnR:nl R<=j+nl V+1:=eP.2 hR2
 obtain⟨qt,hqt⟩:∃qt,qt=R/(V*2^(32*j)):=⟨_,rfl⟩
 have hq32:qt<4294967296:=by
  rw[hqt,Nat.div_lt_iff_lt_mul hVT]
  have e:V*2^(32*(j+1))=4294967296*(V*2^(32*j)):=by rw[jH,<-Nat.mul_assoc,Nat.mul_comm V,Nat.mul_assoc]
  omega
 have hqle:qt*(V*2^(32*j))<=R:=by rw[hqt];exact Nat.div_mul_le_self _ _
 have hqlt:∀d,R<d*(V*2^(32*j))->qt<d:=fun d h=>by rw[hqt,Nat.div_lt_iff_lt_mul hVT];exact h
 have M5:aG V (nl V-1)*2^(32*(nl V-1))<=V:=by
  have:=iW (N:=V)
  obtain⟨k,hk⟩:∃k,nl V=k+1:=⟨nl V-1,aa⟩
  rw[hk,val]at this
  rw[hk,Nat.add_sub_cancel]
  omega
 have hqtop:qt<=R/2^(32*(j+nl V-1))/aG V (nl V-1):=by
  rw[Nat.le_div_iff_mul_le hv1,Nat.le_div_iff_mul_le (Nat.two_pow_pos _)]
  refine Nat.le_trans ?_ hqle
  rw[show 32*(j+nl V-1)=32*(nl V-1)+32*j by omega,Nat.pow_add,Nat.mul_assoc,<-Nat.mul_assoc (aG V (nl V-1))]
  exact Nat.mul_le_mul_left _ (Nat.mul_le_mul_right _ M5)
 refine az.hole [1,1,1,1,1,0] ah (aJ.chunk 3 (S0 h0 hn aa aa hR2 hv fun s' hv=>dx ?_))
 have lv1:=fB (N:=V) (i:=nl V-1)
 have w1:i64.wrap ((nl V:Int)-1)=((nl V-1:Nat):Int):=gl aa aa
 have htop64:R/2^(32*(j+nl V-1))<2^64:=by
  rw[Nat.div_lt_iff_lt_mul (Nat.two_pow_pos _),<-Nat.pow_add,show 64+32*(j+nl V-1)=32*(j+nl V+1) by omega];exact hR2
 refine aJ.chunk 1 (aJ.gL hT oI hm 60 hv (h0 _) rfl (jw aa) (gF++[17]) aht ah ah ?_)
 have wl:u64.wrap (aG V (nl V-1):Int)=((aG V (nl V-1):Nat):Int):=cR aa aa
 rw[w1]
 simp only[ag.all,aC,bS]
 rw[wl]
 obtain⟨t,ht⟩:∃t,t=R/2^(32*(j+nl V-1)):=⟨_,rfl⟩
 rw[<-ht]at hqtop htop64 ⊢
 have htd:t/aG V (nl V-1)<=t:=Nat.div_le_self _ _
 have w2:u64.wrap ((t:Int).tdiv ((aG V (nl V-1):Nat):Int))=((t/aG V (nl V-1):Nat):Int):=by
  rw[<-Int.ofNat_tdiv,Ao,Nat.mod_eq_of_lt aa]
 rw[w2]
 obtain⟨d0,hd0⟩:∃d0:Nat,d0=if 4294967295<t/aG V (nl V-1)then 4294967295 else t/aG V (nl V-1):=⟨_,rfl⟩
 have w3:(if(4294967295:Int)<((t/aG V (nl V-1):Nat):Int)then(4294967295:Int)else((t/aG V (nl V-1):Nat):Int))=(d0:Int):=by
  rw[hd0]
  by_cases h:4294967295<t/aG V (nl V-1)
  ·rw[if_pos h,if_pos (afS h)];rfl
  ·rw[if_neg h,if_neg (aj8 h)]
 have hd32:d0<4294967296:=by rw[hd0];split<;>omega
 have hqd:qt<=d0:=by rw[hd0];split<;>omega
 rw[w3]
 refine⟨⟨aa,aa⟩,fun s' hv=>dx ?_⟩
 rw[List.drop_drop]
 refine aJ.gL hT oI hm 60 hv (h0 _) rfl (jw aa) (gF++[17,18]) ag9 ah ah ?_
 have w4:u32.wrap (d0:Int)=(d0:Int):=wrap_u32 aa aa
 rw[w4]
 simp only[ag.all,aC,bS]
 have nlmul:∀{d:Nat},d<4294967296->nl (V*d*2^(32*j))<=nl V+1+j/\nl (V*d)<=nl V+1:=fun {d} hd=>by
  have h1:V*d<2^(32*(nl V+1)):=by
   rw[jH,Nat.mul_comm]
   exact Nat.mul_lt_mul'' hd hVl
  refine⟨eP.2 ?_,eP.2 h1⟩
  rw[Nat.mul_add,Nat.pow_add]
  exact(Nat.mul_lt_mul_right hTp).2 h1
 have hnd:=nlmul hd32
 refine⟨⟨hnV,aa,aa,aa,aa,aa⟩,fun s' hv=>dx ?_⟩
 refine az.jG (i:=2) (y:=part pN [1,1,1,1,1,0,0,0]) ah (gF++[17,18]) 8 (h0 _) (fun d:Nat=>j3 V s R lq j 7++[.int .u64 (d:Nat),.mag (V*d*2^(32*j))]) (fun _=>eZ 7 lq q) (fun _=>rfl) (fun _=>jw aa)
  (fun d=>qt<=d/\d<4294967296) id d0 hv ⟨hqd,hd32⟩ ?_
 rintro d ⟨hqd,hd⟩
 have hnd:=nlmul hd
 have eX:V*d*2^(32*j)=d*(V*2^(32*j)):=by rw[Nat.mul_comm V d,Nat.mul_assoc]
 refine az.bU hT oI hm 60 (gF++[17,18]) agH ah ?_
 simp only[ag.all,aC,bI,bR,bS,ZT]
 refine⟨⟨aa,aa⟩,fun hb=>?_,fun hb s' hv=>gR ?_⟩
 ·rw[eX]at hb
  have hqd1:=hqlt d hb
  have hd1:0<d:=aa
  have e1:V*d*2^(32*j)-V*2^(32*j)=V*(d-1)*2^(32*j):=by
   rw[Nat.mul_sub,Nat.mul_one,Nat.sub_mul]
  have e2:V*2^(32*j)<=V*d*2^(32*j):=Nat.mul_le_mul_right _ (by have:=Nat.mul_le_mul_left V hd1;omega)
  refine⟨⟨aa,aa,aa,e2,aa⟩,fun s' hv=>⟨d-1,fC hv ?_ rfl,⟨aa,aa⟩,by simp;omega⟩⟩
  rw[e1,cR aa aa,show(d:Int)-1=((d-1:Nat):Int) by omega]
  rfl
 ·have hXR:d*(V*2^(32*j))<=R:=by rw[eX]at hb;omega
  have hdq:d=qt:=by
   have:d<=qt:=by rw[hqt,Nat.le_div_iff_mul_le hVT];exact hXR
   omega
  show aJ P c f174.ntmps (behind pN [1,1,1,1,1,0]) s' _
  refine aJ.gL hT oI hm 60 hv (h0 _) rfl (jw aa) gF adT ah ah ?_
  simp only[ag.all,aC,bS,Nat.add_zero,beq_iff_eq]
  refine⟨⟨aa,aa⟩,⟨by rw[eX];exact hXR,aa⟩,fun s' hv=>fin s' aa (fC hv ?_ ?_)⟩
  ·have:R-V*d*2^(32*j)=R%(V*2^(32*j)):=by
    rw[eX,hdq,hqt,Nat.mul_comm]
    have:=Nat.div_add_mod R (V*2^(32*j))
    omega
   rw[this]
  ·simp only[eZ]
   congr 3
   funext k
   rw[<-hqt,<-hdq]
   exact jC (wrap_u32 aa aa) k
end pieces
end Go.Am.B
namespace Go.Am.B
open Go Go.Am.N AV Proofs.Tryz IntKind
theorem acG {c:Ctx} (h0:∀nx k x,c.k0 k=some x->k<nx) {A B V s lq R0:Nat} (hs:s<32) (hB0:B≠0) (hV:V=B*2^s) (hR0:R0=A*2^s) (hn:2<=nl V) (hnV:nl V<2^39) (hlq:lq<2^39) (hv1:0<aG V (nl V-1)) (hnR:nl R0<2^40) (hlt:R0<V*2^(32*lq))
  {s':aP} (hv:bJ gF s'=some (j3 V s R0 lq ((lq:Int)-1) 7,eZ 7 lq fun _=>0)):
  az P c f174.ntmps (part (aK f174) rG) s' (fW (fun s'=>aJ P c f174.ntmps (behind (aK f174) rG) s' (gX c (Fin T f174 (pJ A B)))) (gX c (Fin T f174 (pJ A B)))):=by
 have hV0:0<V:=Nat.pos_of_ne_zero (jc.1 aa)
 refine az.jG (i:=0) (y:=sL) ah gF 8 (h0 _) (fun p:Nat×Nat×(Nat->Nat)=>j3 V s p.2.1 lq ((p.1:Int)-1) 7) (fun p=>eZ 7 lq p.2.2) (fun _=>rfl) (fun _=>jw aa)
  (fun p=>p.1<=lq/\(∀i,i<lq->p.2.2 i<2^32)/\(∀i,i<p.1->p.2.2 i=0)/\val lq p.2.2*V+p.2.1=R0/\p.2.1<V*2^(32*p.1)) (fun p=>p.1) (lq,R0,fun _=>0) hv
  ⟨by simp,fun _ _=>by simp,fun _ _=>rfl,?_,hlt⟩ ?_
 ·simp only;rw[val_zero fun _ _=>rfl];simp
 rintro⟨m,R,q⟩ ⟨hm',hq,hq0,hval,hR⟩
 simp only at hm' hq hq0 hval hR
 refine az.hole [0] ah (show az P c f174.ntmps (part sL [0]) _ _ from az.bU hT oI hm 60 gF Yr ah ?_)
 simp only[ag.all,bI,bR]
 refine⟨fun hb s' hv=>dx ?_,fun hb s' hv=>ud (gR ?_)⟩
 ·obtain⟨j,rfl⟩:∃j,m=j+1:=⟨m-1,aa⟩
  have hv:bJ gF s'=some (j3 V s R lq (j:Nat) 7,eZ 7 lq q):=fC hv (by simp only[j3,List.cons.injEq,AV.int.injEq,and_true,true_and];omega) rfl
  show aJ P c f174.ntmps [part sL [1]] s' _
  refine az.hole [0] ah ?_
  show az P c f174.ntmps (part sL [1,0]) s' _
  refine az.rT (i:=1) (y:=pN) ah ?_
  refine adu h0 hn hnV aa aa aa hR hv1 hv fun s' hqt hv=>?_
  show aJ P c f174.ntmps [part sL [1,1]] s' _
  refine aJ.gL hT oI hm 60 hv (h0 8) rfl (jw aa) gF Z7 ah ah fun s' hv=>dx ?_
  refine⟨(j,R%(V*2^(32*j)),cX q j (R/(V*2^(32*j)))),fC hv ?_ rfl,⟨by simp only;omega,jQ hqt hq,fun i hi=>(iw (by simp only at hi;omega)).trans (hq0 i (by simp only at hi;omega)),?_,Nat.mod_lt _ (Nat.mul_pos hV0 (Nat.two_pow_pos _))⟩,by simp only;omega⟩
  ·rw[wrap_i64 aa aa]
  ·simp only
   rw[u6 aa (hq0 j aa),Nat.add_mul]
   have h1:=Nat.div_add_mod R (V*2^(32*j))
   generalize R/(V*2^(32*j))=qt at*
   generalize R%(V*2^(32*j))=r at*
   rw[show qt*2^(32*j)*V=V*2^(32*j)*qt by rw[Nat.mul_comm (V*_),Nat.mul_assoc,Nat.mul_comm (2^_)]]
   omega
 ·have hm0:m=0:=aa
  have hRV:R<V:=by rw[hm0]at hR;simpa using hR
  show aJ P c f174.ntmps (behind (aK f174) rG) s' _
  refine aJ.mw hT oI hm 60 hv (h0 _) rfl (jw aa) WC ah ah ?_
  have hS:0<2^s:=Nat.two_pow_pos _
  have hnR2:nl R<=nl R0:=jz aa
  obtain⟨e1,e2⟩:=Om hval hRV
  simp only[ag.all,aC,bS,Nat.add_zero,lQ]
  refine⟨⟨jg hq,aa,aa,aa,aa⟩,fG (congrArg AV.mag ?_),fG (congrArg AV.mag ?_),cE (by rw[if_neg hB0]),trivial⟩
  ·rw[<-e1,hR0,hV,Nat.mul_div_mul_right _ _ hS]
  ·rw[if_neg hB0,<-e2,hR0,hV,Nat.mul_mod_mul_right,Nat.mul_div_cancel _ hS]
theorem T6 {A B:Nat} (hA:nl A<2^38) (hB:nl B<2^38) (K:Nat):aW P 174 K [.mag A,.mag B] [] (aO (pJ A B) []):=by
 refine jj hT agN rfl bh rfl (fun _ c h0=>?_) K []
 have hk0:=DJ h0
 refine az.hole rG ah (aJ.chunk 5 (aJ.bU hT oI hm 60 [0,1,4,5,6] aea ah ?_))
 simp only[ag.all,aC,beq_iff_eq,beq_eq_false_iff_ne,ne_eq,bI,bR,CS]
 have hnl0:nl B=0↔B=0:=lz
 refine⟨fun hb s' hv=>gQ (gQ (.inl ?_)),fun hb=>⟨⟨aa,aa⟩,fun hlt=>⟨aa,fun s' hv=>gQ (gQ (.inl ?_))⟩,fun hge=>⟨fun hf=>?_,fun hf=>⟨fun h1=>?_,fun h1 s' hv=>dx ?_⟩⟩⟩⟩
 ·have hB0:B=0:=hnl0.1 aa
  exact jn (us:=[.nil,.nil,.int .i64 3]) (.inr rfl) hv ah ⟨by rw[hB0];simpa using mP,by rw[if_pos hB0];exact mP,cE (by simp[hB0]),trivial⟩
 ·have hB0:B≠0:=fun h=>hb (by rw[hnl0.2 h];rfl)
  refine jn (us:=[.nil,.mag A,.int .i64 0]) (.inr rfl) hv ah ⟨?_,fG ?_,cE (by simp[hB0]),trivial⟩
  ·rw[Nat.div_eq_of_lt hlt];exact mP
  ·rw[if_neg hB0,Nat.mod_eq_of_lt hlt]
 ·have hB0:B≠0:=fun h=>hb (by rw[hnl0.2 h];rfl)
  have hA64:A<2^64:=by unfold iT at hf;simpa using hf
  have RT:iT B=true:=by unfold iT;simp;omega
  rw[if_pos hf,if_pos RT]
  have hdl:=Nat.div_le_self A B
  have hml:A%B<=A:=Nat.mod_le _ _
  have e1:u64.wrap ((A:Int).tdiv (B:Int))=((A/B:Nat):Int):=by rw[<-Int.ofNat_tdiv,Ao,Nat.mod_eq_of_lt aa]
  have e2:(A:Int).tmod (B:Int)=((A%B:Nat):Int):=(Int.ofNat_tmod _ _).symm
  rw[e1,e2]
  have cn:∀{x:Nat},x<2^64->(0:Int)<=(x:Int)/\(x:Int)<2^64:=fun {x} h=>aa
  refine⟨⟨aa,cn (Nat.lt_of_le_of_lt hdl hA64),aa,cn (Nat.lt_of_le_of_lt hml hA64)⟩,fun s' hv=>gQ (gQ (.inl ?_))⟩
  refine jn (us:=[.mag (A/B),.mag (A%B),.int .i64 0]) (.inr rfl) hv ah ⟨.refl _,fG (by rw[if_neg hB0]),cE (by simp[hB0]),trivial⟩
 ·have hB0:B≠0:=fun h=>hb (by rw[hnl0.2 h];rfl)
  have hl0:aG B 0=B:=by
   have:=iW (N:=B)
   rw[show nl B=1 by omega,val,val]at this
   simpa using this
  have hBlt:B<2^32:=by rw[<-hl0];exact fB
  have hmod:A%B<2^32:=Nat.lt_trans (Nat.mod_lt _ aa) hBlt
  simp only[Int.toNat_zero,hl0,bS]
  have e1:u64.wrap ((A%B:Nat):Int)=((A%B:Nat):Int):=by rw[Ao,Nat.mod_eq_of_lt aa]
  rw[e1]
  have cn:∀{x:Nat},x<2^32->(0:Int)<=(x:Int)/\(x:Int)<2^64:=fun {x} h=>aa
  refine⟨⟨aa,aa,aa,aa⟩,cn hmod,fun s' hv=>gQ (gQ (.inl ?_))⟩
  refine jn (us:=[.mag (A/B),.mag (A%B),.int .i64 0]) (.inr rfl) hv ah ⟨.refl _,fG (by rw[if_neg hB0]),cE (by simp[hB0]),trivial⟩
 have hB0:B≠0:=fun h=>hb (by rw[hnl0.2 h];rfl)
 have hn2:2<=nl B:=by have:=jc.2 hB0;omega
 have hv:=lR (ls:=[0,1]) (l:=[4,5,6]) (vs:=[.mag A,.mag B]) hv rfl rfl
 refine aJ.chunk 1 (aJ.gL hT oI hm 60 hv (h0 0) rfl trivial [0,1,13] Tw ah ah ?_)
 have w1:i64.wrap ((nl B:Int)-1)=((nl B-1:Nat):Int):=gl aa aa
 rw[w1]
 simp only[ag.all,aC,bS]
 have e1:nl B-(nl B-1)=1:=aa
 rw[e1]
 have hlB:=fB (N:=B) (i:=nl B-1)
 have htopB:=AH hB0
 have e2:(val 1 fun i=>numOf (AV.int .u32 (aG B (i+(nl B-1)):Nat)))=aG B (nl B-1):=by
  rw[val,val];simp[numOf]
 rw[e2]
 have hb32:ck (aG B (nl B-1))<=32:=kJ.2 hlB
 have w2:i64.wrap (32-((ck (aG B (nl B-1)):Nat):Int))=((32-ck (aG B (nl B-1)):Nat):Int):=gl aa aa
 rw[w2]
 have hnl1:nl (aG B (nl B-1))=1:=by
  have:=jc.2 htopB
  have:nl (aG B (nl B-1))<=1:=eP.2 aa
  omega
 refine⟨⟨aa,fun i hi=>⟨_,fB,rfl⟩,aa,hnl1⟩,fun s' hv=>dx ?_⟩
 obtain⟨s,hs⟩:∃s,s=32-ck (aG B (nl B-1)):=⟨_,rfl⟩
 rw[<-hs]at hv
 obtain⟨hs32,hnV,hnorm,hVlt⟩:=Qv hB0 hs
 rw[List.drop_drop]
 refine aJ.gL hT oI hm 60 hv (h0 0) rfl trivial gF acK ah ah ?_
 simp only[ag.all,aC,bS]
 obtain⟨V,hV⟩:∃V,V=B*2^s:=⟨_,rfl⟩
 obtain⟨R0,hR0⟩:∃R0,R0=A*2^s:=⟨_,rfl⟩
 rw[<-hV,<-hR0]
 rw[<-hV]at hnV hnorm hVlt
 have hnR1:nl R0<=nl A+1:=eP.2 (by
  rw[hR0,show 32*(nl A+1)=32*nl A+32 by omega,Nat.pow_add]
  have h1:2^s<=2^32:=Nat.pow_le_pow_right aa aa
  exact Nat.lt_of_lt_of_le ((Nat.mul_lt_mul_right (Nat.two_pow_pos s)).2 oS) (Nat.mul_le_mul_left _ h1))
 have hnR2:nl V<=nl R0:=jz (by rw[hV,hR0];exact Nat.mul_le_mul_right _ aa)
 obtain⟨lq,hlq⟩:∃lq,lq=nl R0-nl V+1:=⟨_,rfl⟩
 have w3:i64.wrap ((nl R0:Int)-(nl V:Int))=((lq:Nat):Int)-1:=by rw[wrap_i64 aa aa];omega
 have w4:i64.wrap (((lq:Nat):Int)-1+1)=((lq:Nat):Int):=gl aa aa
 rw[w3,w4]
 simp only[bS]
 refine⟨⟨aa,aa,aa,aa,aa,aa⟩,aa,fun s' hv=>dx ?_⟩
 refine az.od (fe (vs:=j3 V s R0 lq ((lq:Int)-1) 7) (ps:=eZ 7 lq fun _=>0) (nx:=8) [(7,65536)] hv hk0 rfl
  ⟨aY,aY,aY,aY,⟨rfl,eR rfl rfl rfl⟩,aY,trivial⟩ ⟨⟨_,_,rfl,rfl,gZ rfl fun j _=>rfl⟩,trivial⟩) ?_
 have hv1:0<aG V (nl V-1):=by rw[hnV];omega
 refine acG h0 hs32 hB0 hV hR0 aa aa aa hv1 aa ?_ rfl
 have hVge:2^(32*(nl V-1))<=V:=by
  rcases Nat.lt_or_ge V (2^(32*(nl V-1)))with h|h
  ·have:=eP.2 h;omega
  ·exact h
 have h1:=Nat.mul_le_mul_right (2^(32*lq)) hVge
 rw[<-Nat.pow_add,show 32*(nl V-1)+32*lq=32*nl R0 by omega]at h1
 exact Nat.lt_of_lt_of_le oS h1
def Pn:Spec:=pE (fun A B=>pJ A B) fun A B=>[nl A<2^38,nl B<2^38]
theorem PJ:bp P Pn 174:=sR fun h=>T6 h.1 h.2
theorem agq:bu 173 f173:=bC func173
def rD:bE:=[(140,wI),(186,Gi),(138,y9),(174,pE (fun A B=>pJ A B) fun A B=>[nl A<2^38,nl B<2^38])]
abbrev Bc:Code:=part (aK f173) [1,1,0,0,0]
abbrev Bt:Code:=part Bc [1,0]
abbrev xj:Code:=part Bt [1,1,0,1,0]
abbrev Ll:Code:=part xj [0,0,0]
theorem s6:bY P rD:=aM A5 (aM LP (aM D8 (aM PJ cJ)))
theorem ahJ {A B:Nat}:aL T rD [] 60 [0,1] (before (aK f173) [1,1,0]) ⟨aZ 0 [.mag A,.mag B],[],0⟩=
  some (ag.aj [nl A<2^40,nl B<2^40] (ag.leaf au.normal ([mag A,mag B],[]))):=ah
theorem aj5 {A B:Nat}:aL T rD [18] 60 [0,1] [part Bc [0]] ⟨aH [0,1] [.mag A,.mag B],[],0⟩=
  some (ag.fork (decide ((↑(nl B):Int)>0)) (ag.leaf au.normal ([mag A,mag B],[])) (ag.leaf (au.exit 0) ([mag A,mag B],[]))):=ah
theorem UP {A B:Nat}:aL T rD [30,32] 60 [0,1,5,7,32] (before Bt [1,1,0,1]) ⟨aH [0,1] [.mag A,.mag B],[],0⟩=
  let b:=int .u64 (↑(if iT B=true then B else 0):Int);let a:=int .u64 (↑(if iT A=true then A else 0):Int);some (ag.fork (iT A) (ag.aj [iT A=true] (ag.leaf au.normal ([mag A,mag B,a,b,AV.bool (bif true then iT B else false)],[]))) (ag.aj [iT A=false] (ag.leaf au.normal ([mag A,mag B,a,b,AV.bool false],[])))):=ah
theorem ahG {x y:Nat}:aL T rD [34] 60 [5,7] [Ll] ⟨aH [5,7] [.int .u64 x,.int .u64 y],[],0⟩=
  let a:=(↑y:Int);some (ag.fork (a !=(0:Int)) (ag.aj [a≠(0:Int)] (ag.leaf au.normal ([int .u64 a,int .u64 ((↑x:Int).tmod a)],[]))) (ag.leaf (au.exit 2) ([int .u64 (↑x:Int),int .u64 a],[]))):=ah
theorem afY {x y:Nat}:aL T rD [] 60 [4] [part xj [1]] ⟨aH [5,7] [.int .u64 x,.int .u64 y],[],0⟩=
  some (ag.aj [(0:Int)<=(↑x:Int)/\(↑x:Int)<2^64] (ag.leaf au.ret ([mag (↑x:Int).toNat],[]))):=ah
theorem S4 {A B:Nat}:aL T rD [] 60 [0,1] (behind Bt [1,1,0,1]) ⟨aH [0,1] [.mag A,.mag B],[],0⟩=
  some (ag.aj [nl A<2^38,nl B<2^38] (ag.leaf au.normal ([mag B,mag (if B=0 then 0 else A%B)],[]))):=ah
theorem acy {A B:Nat}:dc T rD [] 60 f173 (behind (aK f173) [1,1,0]) ⟨aH [0,1] [.mag A,.mag B],[],0⟩=
  some (ag.leaf au.ret [mag A]):=ah
theorem afi {s:aP} {ls l:List Nat} {vs us:List AV} {os:aI} (hv:bJ (l++ls) s=some (us++vs,os)) (hl:us.length=l.length) (hk:b7 us=[]):bJ ls s=some (vs,os):=by
 unfold bJ at hv ⊢
 simp only[aB,Prod.mk.injEq,E9]at hv ⊢
 obtain⟨h1,h2⟩:=hv
 obtain⟨h3,h4⟩:=List.append_inj h1 (by rw[EJ,hl])
 subst h4
 refine⟨rfl,?_⟩
 rw[<-h2,h3,K1,hk,List.nil_append]
theorem Zo {A B:Nat} (hA:nl A<2^38) (hB:nl B<2^38) (K:Nat):aW P 173 K [.mag A,.mag B] [] (aO (.mag (Nat.gcd A B)) []):=by
 refine jj hT agq rfl bh rfl (fun _ c h0=>?_) K []
 have hk0:=DJ h0
 refine az.hole [1,1,0] ah (aJ.bU hT s6 hm 60 [0,1] ahJ ah ?_)
 simp only[ag.all,aC]
 refine⟨⟨aa,aa⟩,fun s' hv=>dx ?_⟩
 refine az.jG (i:=0) (y:=Bc) ah [0,1] 0 (h0 0) (fun p:Nat×Nat=>[.mag p.1,.mag p.2]) (fun _=>[]) (fun _=>rfl) (fun _=>trivial)
  (fun p=>Nat.gcd p.1 p.2=Nat.gcd A B/\nl p.1<2^38/\nl p.2<2^38) (fun p=>p.2) (A,B) hv ⟨rfl,hA,hB⟩ ?_
 rintro⟨X,Y⟩ ⟨hg,hX,hY⟩
 simp only at hg hX hY
 have hstep:∀{X Y:Nat},Y≠0->Nat.gcd Y (X%Y)=Nat.gcd X Y:=fun {X Y} _=>by rw[Nat.gcd_comm X Y,Nat.gcd_rec Y X,Nat.gcd_comm]
 refine az.hole [0] ah (show az P c f173.ntmps (part Bc [0]) _ _ from az.bU hT s6 hm 60 [0,1] aj5 ah ?_)
 simp only[ag.all,bI,bR]
 refine⟨fun hb s' hv=>dx ?_,fun hb s' hv=>ud (gR ?_)⟩
 ·have hY0:Y≠0:=jc.1 aa
  have hlt:=Nat.mod_lt X (show 0<Y by omega)
  show az P c f173.ntmps (part Bc [1]) s' _
  refine az.rT (i:=1) (y:=Bt) ah ?_
  refine az.hole [1,1,0,1] ah (aJ.gL hT s6 hm 60 hv (h0 0) rfl trivial [0,1,5,7,32] UP ah ah ?_)
  simp only[ag.all,aC]
  have fin:∀{s':aP} {Q:au->aP->Prop},bJ [0,1] s'=some ([.mag X,.mag Y],[])->(∀s',bJ [0,1] s'=some ([.mag Y,.mag (X%Y)],[])->Q .normal s')->aJ P c f173.ntmps (behind Bt [1,1,0,1]) s' Q:=by
   intro s' Q hv h
   refine aJ.gL hT s6 hm 60 hv (h0 0) rfl trivial [0,1] S4 ah ah ?_
   simp only[ag.all,aC]
   exact⟨⟨hX,hY⟩,fun s' hv=>h s' (fC hv (by rw[if_neg hY0]) rfl)⟩
  have good:∀{s':aP},bJ [0,1] s'=some ([.mag Y,.mag (X%Y)],[])->∃k:Nat×Nat,bJ [0,1] s'=some ([.mag k.1,.mag k.2],[])/\(Nat.gcd k.1 k.2=Nat.gcd A B/\nl k.1<2^38/\nl k.2<2^38)/\k.2<Y:=
   fun hv=>⟨(Y,X%Y),hv,⟨by rw[<-hg];exact hstep hY0,hY,Nat.lt_of_le_of_lt (jz (Nat.le_of_lt hlt)) hY⟩,hlt⟩
  refine⟨fun hf=>⟨hf,fun s' hv=>dx ?_⟩,fun hf=>⟨hf,fun s' hv=>dx ?_⟩⟩
  ·refine az.cond (b:=.tmp 32) (t:=iT Y) (x:=xj) (y:=.skip) (Al hv rfl rfl) (fun hf2=>?_) (fun _=>az.skip ?_)
   ·rw[if_pos hf,if_pos hf2]at hv
    have hX64:X<2^64:=by unfold iT at hf;simpa using hf
    have hY64:Y<2^64:=by unfold iT at hf2;simpa using hf2
    have hv:=afi (l:=[0,1]) (us:=[.mag X,.mag Y]) (lR (ls:=[0,1,5,7]) (vs:=[.mag X,.mag Y,.int .u64 (X:Nat),.int .u64 (Y:Nat)]) hv rfl rfl) rfl rfl
    refine az.hole [0] ah ?_
    show az P c f173.ntmps (part xj [0]) s' _
    refine az.jG (i:=2) (y:=Ll) ah [5,7] 0 (h0 0) (fun p:Nat×Nat=>[.int .u64 (p.1:Nat),.int .u64 (p.2:Nat)]) (fun _=>[]) (fun _=>rfl) (fun _=>trivial)
     (fun p=>Nat.gcd p.1 p.2=Nat.gcd A B/\p.1<2^64/\p.2<2^64) (fun p=>p.2) (X,Y) hv ⟨hg,hX64,hY64⟩ ?_
    rintro⟨x,y⟩ ⟨hg,hx,hy⟩
    simp only at hg hx hy
    refine az.bU hT s6 hm 60 [5,7] ahG ah ?_
    simp only[ag.all,aC,bne_iff_ne,ne_eq,bne_eq_false_iff_eq]
    refine⟨fun hb=>⟨hb,fun s' hv=>dx ?_⟩,fun hb s' hv=>gR ?_⟩
    ·have hy0:y≠0:=aa
     have hlt:=Nat.mod_lt x (show 0<y by omega)
     exact⟨(y,x%y),fC hv (by rw[<-Int.ofNat_tmod]) rfl,⟨by rw[<-hg];exact hstep hy0,hy,by simp only;omega⟩,hlt⟩
    ·have hy0:y=0:=aa
     show aJ P c f173.ntmps [part xj [1]] s' _
     refine aJ.gL hT s6 hm 60 hv (h0 0) rfl trivial [4] afY ah ah ?_
     simp only[ag.all,aC,bS]
     refine⟨aa,fun s' hv=>?_⟩
     rw[show x=Nat.gcd A B by rw[<-hg,hy0,Nat.gcd_zero_right]]at hv
     exact(.inl (jn (us:=[.mag (Nat.gcd A B)]) (.inr rfl) hv ah (fG rfl)))
   ·exact dx (fin (lR (ls:=[0,1]) (vs:=[.mag X,.mag Y]) hv rfl rfl) fun s' hv=>good hv)
  ·refine az.cond (b:=.tmp 32) (t:=false) (x:=xj) (y:=.skip) (Al hv rfl rfl) (fun h=>by simp at h) (fun _=>az.skip ?_)
   exact dx (fin (lR (ls:=[0,1]) (vs:=[.mag X,.mag Y]) hv rfl rfl) fun s' hv=>good hv)
 ·have hY0:Y=0:=lz.1 aa
  show aJ P c f173.ntmps (behind (aK f173) [1,1,0]) s' _
  refine aJ.mw hT s6 hm 60 hv (h0 0) rfl trivial acy ah ah (fG ?_)
  rw[<-hg,hY0,Nat.gcd_zero_right]
def G5:Spec:=pE (fun A B=>.mag (Nat.gcd A B)) fun A B=>[nl A<2^38,nl B<2^38]
theorem Nk:bp P G5 173:=sR fun h=>Zo h.1 h.2
theorem UW:bu 86 f86:=bC func86
theorem Ti:bu 145 f145:=bC func145
theorem aja:bu 82 f82:=bC func82
theorem abZ:bu 26 f26:=bC func26
theorem Zm:bu 24 f24:=bC func24
theorem acB:bu 52 f52:=bC func52
def GE:bE:=[(140,wI),(173,G5),(174,Pn),(138,y9),(84,Aj)]
theorem wV:bY P GE:=aM A5 (aM Nk (aM PJ (aM D8 (aM C3 cJ))))
theorem aaZ {q:Rat} {n:Nat}:cy T GE [6] 60 f86 (aK f86) ⟨aZ 0 [.rat q n],[],0⟩=
  let a:=if q.den=1 then 0 else q.den;some (ag.aj [(0:Nat)<1] (ag.fork ((↑(nl a):Int)==0) (ag.aj [(1:Nat)*1<=2^24] (ag.leaf au.ret [aq 1 1 fun i=>nth [int .u32 (1:Int)] (int .u32 (0:Int)) (i+0)])) (ag.aj [(0:Nat)<1] (ag.leaf au.ret [mag a])))):=ah
theorem Ui {b:Bool} {N D:Nat}:cy T GE [14,22,27,45,50] 60 f145 (aK f145) ⟨aZ 0 [.bool b,.mag N,.mag D],[],0⟩=
  let g:=(0:Int)<=0;let a:=N.gcd D;let f:=(↑(nl D):Int)==1;let i:=Int.toNat (0:Int);let h:=2^38;let d:=[(0:Nat)<1];let e:=(↑(nl a):Int)!=1;let j:ag (List AV):=ag.aj d (ag.aj d (ag.leaf au.ret [agg [AV.bool b,mag N,nil]]));let p:ag (List AV):=ag.aj d (ag.aj d (ag.leaf au.ret [agg [AV.bool b,mag N,mag D]]));let k:=(↑(nl (D/a)):Int)==1;let o:ag (List AV):=ag.aj d (ag.aj d (ag.leaf au.ret [agg [AV.bool b,mag (N/a),nil]]));let n:ag (List AV):=ag.aj d (ag.aj d (ag.leaf au.ret [agg [AV.bool b,mag (N/a),mag (D/a)]]));let m:ag (List AV):=ag.fork f (ag.aj [f=true,g/\i<nl D] (ag.fork (bif true then(↑(aG D i):Int)==1 else false) j p)) (ag.aj [f=false] (ag.fork false j p));let l:ag (List AV):=ag.aj [nl N<h,nl a<h] (ag.aj [nl D<h,nl a<h] (ag.fork k (ag.aj [k=true,g/\i<nl (D/a)] (ag.fork (bif true then(↑(aG (D/a) i):Int)==1 else false) o n)) (ag.aj [k=false] (ag.fork false o n))));some (ag.aj [nl N<2^40,nl D<2^40] (ag.fork ((↑(nl N):Int)==0) (ag.aj d (ag.aj d (ag.leaf au.ret [agg [AV.bool false,mag 0,mag 0]]))) (ag.aj [nl N<h,nl D<h] (ag.fork e (ag.aj [e=true] (ag.fork true l m)) (ag.aj [e=false,g/\i<nl a] (ag.fork (bif false then true else(↑(aG a i):Int)!=1) l m)))))):=ah
theorem acX {n:Int}:cy T GE [5] 60 f82 (aK f82) ⟨aZ 0 [.int .i64 n],[],0⟩=
  let b:=u64.wrap n;let a:=u64.wrap (u64.wrap (i64.wrap ((0:Int)-i64.wrap (n+1)))+1);some (ag.fork (decide (n<0)) (ag.aj [(0:Int)<=a/\a<2^64] (ag.leaf au.ret [mag a.toNat,AV.bool true])) (ag.aj [(0:Int)<=b/\b<2^64] (ag.leaf au.ret [mag b.toNat,AV.bool false]))):=ah
theorem aav {q r:Rat} {n m:Nat}:cy T GE [10,18] 60 f26 (aK f26) ⟨aZ 0 [.rat q n,.rat r m],[],0⟩=
  let i:=if r.den=1 then 0 else r.den;let h:=if q.den=1 then 0 else q.den;let b:=2^40;let e:=bif true then eu q.num.natAbs r.num.natAbs==0 else false;let d:=decide (q<0)==decide (r<0);let a:=0<1;let g:=[a,a,nl h<b,nl i<b];let f:ag (List AV):=ag.leaf au.ret [AV.bool (bif true then eu h i==0 else false)];some (ag.fork d (ag.fork e (ag.aj (a::a::(d=true)::a::a::(nl q.num.natAbs<b)::(nl r.num.natAbs<b)::(e=true)::g) f) (ag.aj [a,a,d=true,a,a,nl q.num.natAbs<b,nl r.num.natAbs<b,e=false] (ag.leaf au.ret [AV.bool false]))) (ag.fork false (ag.aj (a::a::(d=false)::(false=true)::g) f) (ag.aj [a,a,d=false,false=false] (ag.leaf au.ret [AV.bool false])))):=ah
theorem Td {q:Rat} {n:Nat}:cy T GE [6,8] 60 f24 (aK f24) ⟨aZ 0 [.rat q n],[],0⟩=
  some (ag.aj [(0:Nat)<1] (ag.fork ((↑(nl q.num.natAbs):Int)==0) (ag.leaf au.ret [int .i64 (0:Int)]) (ag.aj [(0:Nat)<1] (ag.fork (decide (q<0)) (ag.leaf au.ret [int .i64 (-1:Int)]) (ag.leaf au.ret [int .i64 (1:Int)]))))):=ah
theorem Th {q:Rat} {n:Nat}:cy T GE [6] 60 f52 (aK f52) ⟨aZ 0 [.rat q n],[],0⟩=
  let e:=(↑(nl q.num.natAbs):Int);let b:=!decide (q<0);let d:=[mag q.num.natAbs,mag (if q.den=1 then 0 else q.den)];let a:=0<1;some (ag.fork b (ag.aj [a,b=true,a,a] (ag.aj [a,a] (ag.aj [a] (ag.leaf au.ret [agg (AV.bool (bif true then decide (e>0)else false)::d)])))) (ag.aj [a,b=false,a] (ag.aj [a,a] (ag.aj [a] (ag.leaf au.ret [agg (AV.bool false::d)]))))):=ah
theorem YB {q:Rat} {n:Nat} (K:Nat) (pre:aI):aW P 86 K [.rat q n] pre (aO (.mag q.den) []):=by
 refine cB hT wV hm UW rfl bh rfl 60 aaZ (fun _=>?_) K pre
 simp only[ag.all,aC,beq_iff_eq,beq_eq_false_iff_ne,ne_eq]
 refine⟨aa,fun hb=>⟨aa,?_⟩,fun hb=>⟨aa,fG ?_⟩⟩
 ·have h0:=q.den_nz
  have:(if q.den=1 then 0 else q.den)=0:=lz.1 aa
  have h1:q.den=1:=by split at this;assumption;exact absurd this h0
  rw[h1]
  exact l9 (by decide) fun i hi=>by rw[show i=0 by omega];exact congrArg (AV.int .u32) (show(1:Int)=((aG 1 0:Nat):Int) by decide)
 ·have:q.den≠1:=fun h=>hb (by rw[if_pos h];rfl)
  rw[if_neg this]
theorem UL {b:Bool} {N D:Nat} (hN:nl N<2^38) (hD:nl D<2^38) (hD0:D≠0) (K:Nat) (pre:aI):aW P 145 K [.bool b,.mag N,.mag D] pre (aO (.rat (sQ b N D) (eJ (sQ b N D))) []):=by
 refine cB hT wV hm Ti rfl bh rfl 60 Ui (fun _=>?_) K pre
 have hz:sQ b N D=0->bf (.agg [.bool false,.mag 0,.mag 0]) (.rat (sQ b N D) (eJ (sQ b N D))):=fun h=>by
  rw[h];exact p8
 simp only[ag.all,aC,beq_iff_eq,beq_eq_false_iff_ne,ne_eq,bne_iff_ne,bne_eq_false_iff_eq,Int.toNat_zero]
 refine⟨⟨aa,aa⟩,fun hb=>⟨aa,aa,hz ?_⟩,fun hb=>?_⟩
 ·rw[lz.1 (show nl N=0 by omega),F3]
 have hN0:N≠0:=fun h=>hb (by rw[lz.2 h];rfl)
 have hg:nl (Nat.gcd N D)<2^38:=Nat.lt_of_le_of_lt (jz (Nat.gcd_le_left _ aa)) hN
 have hg0:0<Nat.gcd N D:=Nat.gcd_pos_of_pos_left _ aa
 have hl:∀{Y:Nat},nl Y=1->aG Y 0=Y:=fun {Y} h=>by
  have:=iW (N:=Y)
  rw[h,val,val]at this
  simpa using this
 have h1:∀{X Y:Nat},X=N/Nat.gcd N D->Y=D/Nat.gcd N D->Y≠1->bf (.agg [.bool b,.mag X,.mag Y]) (.rat (sQ b N D) (eJ (sQ b N D))):=fun eX eY h=>wA hN0 hD0 eX (by rw[<-eY,if_neg h]) AL
 have h2:∀{X Y:Nat},X=N/Nat.gcd N D->Y=D/Nat.gcd N D->Y=1->bf (.agg [.bool b,.mag X,.nil]) (.rat (sQ b N D) (eJ (sQ b N D))):=fun eX eY h=>LF.trans (wA hN0 hD0 eX (by rw[<-eY,if_pos h]) AL)
 have i1:∀{Y:Nat},(nl Y:Int)=1->(bif true then((aG Y 0:Nat):Int)==1 else false)=true->Y=1:=fun {Y} h hc=>by
  have:=kU hc
  rw[hl aa]at this
  have:=eq_of_beq this
  omega
 have i2:∀{Y:Nat},(nl Y:Int)=1->(bif true then((aG Y 0:Nat):Int)==1 else false)=false->Y≠1:=fun {Y} h hc h1=>by
  have:=kU hc
  rw[hl aa,h1]at this
  simp at this
 have i3:∀{Y:Nat},¬(nl Y:Int)=1->Y≠1:=fun {Y} h h1=>h (by rw[h1];decide)
 have g1:(nl (Nat.gcd N D):Int)=1->(bif false then true else((aG (Nat.gcd N D) 0:Nat):Int)!=1)=false->Nat.gcd N D=1:=fun h hc=>by
  have:=jT hc
  rw[hl aa]at this
  simp at this
  omega
 refine⟨⟨hN,hD⟩,fun hb=>⟨hb,fun _=>⟨⟨hN,hg⟩,⟨hD,hg⟩,?_⟩,fun h=>by simp at h⟩,fun hb=>⟨⟨hb,aa,aa⟩,fun hc=>⟨⟨hN,hg⟩,⟨hD,hg⟩,?_⟩,fun hc=>?_⟩⟩
 ·exact⟨fun hb=>⟨⟨hb,aa,aa⟩,fun hc=>⟨aa,aa,h2 rfl rfl (i1 hb hc)⟩,fun hc=>⟨aa,aa,h1 rfl rfl (i2 hb hc)⟩⟩,fun hb=>⟨hb,fun h=>by simp at h,fun _=>⟨aa,aa,h1 rfl rfl (i3 hb)⟩⟩⟩
 ·exact⟨fun hb=>⟨⟨hb,aa,aa⟩,fun hc=>⟨aa,aa,h2 rfl rfl (i1 hb hc)⟩,fun hc=>⟨aa,aa,h1 rfl rfl (i2 hb hc)⟩⟩,fun hb=>⟨hb,fun h=>by simp at h,fun _=>⟨aa,aa,h1 rfl rfl (i3 hb)⟩⟩⟩
 ·have e:=g1 hb hc
  have eN:N=N/Nat.gcd N D:=by rw[e,Nat.div_one]
  have eD:D=D/Nat.gcd N D:=by rw[e,Nat.div_one]
  exact⟨fun hb=>⟨⟨hb,aa,aa⟩,fun hc=>⟨aa,aa,h2 eN eD (i1 hb hc)⟩,fun hc=>⟨aa,aa,h1 eN eD (i2 hb hc)⟩⟩,fun hb=>⟨hb,fun h=>by simp at h,fun _=>⟨aa,aa,h1 eN eD (i3 hb)⟩⟩⟩
theorem ahI {n:Int} (h1:-2^63<=n) (h2:n<2^63) (K:Nat) (pre:aI):aW P 82 K [.int .i64 n] pre (aO (.tuple [.mag n.natAbs,.bool (decide (n<0))]) []):=by
 refine cB hT wV hm aja rfl bh rfl 60 acX (fun _=>?_) K pre
 simp only[ag.all,aC,bI,bR]
 refine⟨fun hb=>?_,fun hb=>?_⟩
 ·have e:i64.wrap (n+1)=n+1:=wrap_i64 aa aa
  have e1:i64.wrap (0-(n+1))=-n-1:=by rw[wrap_i64 aa aa];omega
  have e2:u64.wrap (-n-1)=-n-1:=cR aa aa
  have e3:u64.wrap (-n-1+1)=((n.natAbs:Nat):Int):=by rw[cR aa aa];omega
  rw[e,e1,e2,e3]
  exact⟨aa,fG (by rw[bS]),jh (by simp[hb]),trivial⟩
 ·have e3:u64.wrap n=((n.natAbs:Nat):Int):=by rw[cR aa aa];omega
  rw[e3]
  exact⟨aa,fG (by rw[bS]),jh (by simp[hb]),trivial⟩
theorem BY {a b:Nat}:eu a b=0↔a=b:=by unfold eu;split<;>(try split)<;>omega
theorem aiu {q r:Rat} {n m:Nat} (hn:n<2^44) (hm':m<2^44) (K:Nat) (pre:aI):aW P 26 K [.rat q n,.rat r m] pre (aO (.bool (decide (q=r))) []):=by
 refine lJ fun⟨hs1,hs2,_⟩=>?_
 obtain⟨a1,a2,a3⟩:=Sz.lM hs1 hn
 obtain⟨b1,b2,b3⟩:=Sz.lM hs2 hm'
 refine cB hT wV hm abZ rfl bh rfl 60 aav (fun _=>?_) K pre
 simp only[ag.all,aC]
 refine⟨fun hb=>⟨fun hc=>⟨⟨aa,aa,hb,aa,aa,a1,b1,hc,aa,aa,a3,b3⟩,jh ?_⟩,fun hc=>⟨⟨aa,aa,hb,aa,aa,a1,b1,hc⟩,jh ?_⟩⟩,fun hb=>⟨fun h=>by simp at h,fun _=>⟨⟨aa,aa,hb,trivial⟩,jh ?_⟩⟩⟩
 ·have h1:=eq_of_beq hb
  have h2:=BY.1 (eq_of_beq (kU hc))
  rw[cond_true]
  exact(decide_eq_decide (p:=_=0) (q:=q=r)).2 ⟨fun h=>sr.2 ⟨h1,h2,BY.1 h⟩,fun h=>BY.2 (sr.1 h).2.2⟩
 ·have h2:=kU hc
  refine(decide_eq_false fun h=>?_).symm
  rw[BY.2 (sr.1 h).2.1]at h2
  simp at h2
 ·refine(decide_eq_false fun h=>?_).symm
  rw[(sr.1 h).1]at hb
  simp at hb
theorem K8 {q:Rat} {n:Nat} (K:Nat) (pre:aI):aW P 24 K [.rat q n] pre (aO (.int .i64 (bK q)) []):=by
 refine cB hT wV hm Zm rfl bh rfl 60 Td (fun _=>?_) K pre
 simp only[ag.all,aC,beq_iff_eq,beq_eq_false_iff_ne,ne_eq]
 refine⟨aa,fun hb=>cE ?_,fun hb=>⟨aa,fun hc=>cE ?_,fun hc=>cE ?_⟩⟩
 ·have h0:q=0:=pR.1 (lz.1 aa)
  subst h0
  rfl
 ·have:=of_decide_eq_true hc
  unfold bK;rw[if_pos this]
 ·have h1:=of_decide_eq_false hc
  have h0:q≠0:=fun h=>hb (by rw[h];rfl)
  unfold bK;rw[if_neg h1,if_pos (RU h0 h1)]
theorem V0 {q:Rat} {n:Nat} (K:Nat) (pre:aI):aW P 52 K [.rat q n] pre (aO (.rat (-q) n) []):=by
 refine lJ fun⟨hs1,_⟩=>?_
 have hs1:Sz q n:=hs1
 have hs2:=hs1.neg
 have e1:(-q).num.natAbs=q.num.natAbs:=by rw[Rat.neg_num,Int.natAbs_neg]
 have e2:(-q).den=q.den:=Rat.neg_den q
 refine cB hT wV hm acB rfl bh rfl 60 Th (fun _=>?_) K pre
 simp only[ag.all,aC]
 refine⟨fun hb=>⟨⟨aa,hb,aa,aa⟩,⟨aa,aa⟩,aa,vm hs2 ?_ e1.symm (by rw[e2])⟩,fun hb=>⟨⟨aa,hb,aa⟩,⟨aa,aa⟩,aa,vm hs2 ?_ e1.symm (by rw[e2])⟩⟩
 ·have hq:¬q<0:=by simpa using hb
  rw[cond_true]
  have h1:¬q.num<0:=fun h=>hq (kA.2 h)
  exact((decide_eq_decide (p:=-q<0) (q:=(nl q.num.natAbs:Int)>0)).2 (by
   rw[kA,Rat.neg_num]
   have:=jc (N:=q.num.natAbs)
   omega)).symm
 ·have hq:q<0:=by simpa using hb
  have:=kA.1 hq
  exact(decide_eq_false (p:=-q<0) (by rw[kA,Rat.neg_num];omega)).symm
def Er (g:Rat->Nat->eU):Spec:=cD fun l=>match l with
 |[.rat q n]=>some (g q n)
 |_=>none
theorem GJ {f:FuncId} {g:Rat->Nat->eU} (h:∀{q:Rat} {n:Nat} K,aW P f K [.rat q n] [] (g q n)):bp P (Er g) f:=by
 refine cZ fun K args r hk hs _=>?_
 split at hs
 ·simp only[aB]at hs
  subst hs
  exact h K
 ·simp at hs
def FO:Spec:=Er fun q _=>aO (.mag q.den) []
theorem NR:bp P FO 86:=GJ fun K=>YB K []
def Kp:Spec:=Er fun q _=>aO (.int .i64 (bK q)) []
theorem akE:bp P Kp 24:=GJ fun K=>K8 K []
def AR:Spec:=Er fun q n=>aO (.rat (-q) n) []
theorem Df:bp P AR 52:=GJ fun K=>V0 K []
def JN:Spec:=cD fun l=>match l with
 |[.int .i64 n]=>some (aO (.tuple [.mag n.natAbs,.bool (decide (n<0))]) [-2^63<=n,n<2^63])
 |_=>none
theorem ajD:bp P JN 82:=by
 refine cZ fun K args r hk hs _=>?_
 split at hs
 ·simp only[aB]at hs
  subst hs
  exact fun need=>ahI need.1 need.2 K [] trivial
 ·simp at hs
def JB:Spec:=cD fun l=>match l with
 |[.bool b,x,y]=>match kB x,kB y with
  |some N,some D=>some (aO (.rat (sQ b N D) (eJ (sQ b N D))) [nl N<2^38,nl D<2^38,D≠0])
  |_,_=>none
 |_=>none
theorem TJ:bp P JB 145:=by
 refine cZ fun K args r hk hs _=>?_
 split at hs
 ·split at hs
  ·rename_i N D h1 h2
   simp only[aB]at hs
   subst hs
   exact fun need=>iz (UL need.1 need.2.1 need.2.2 K []) hk ⟨.refl _,nO h1,nO h2,trivial⟩ [] trivial
  ·simp at hs
 ·simp at hs
theorem SE:bu 92 f92:=bC func92
theorem aic:bu 53 f53:=bC func53
theorem TV:bu 90 f90:=bC func90
theorem af3:bu 27 f27:=bC func27
theorem aaC:bu 103 f103:=bC func103
theorem TB:bu 46 f46:=bC func46
theorem adn:bu 23 f23:=bC func23
def uM:bE:=[(86,FO),(85,II),(146,JR),(147,Qt),(84,Aj),(145,JB),(24,Kp),(52,AR),(82,JN)]
def QE:Spec:=cD fun l=>match l with
 |[.int .i64 x,.int .i64 y]=>some (aO (.tuple [.rat ((x:Rat)/(y:Rat)) 64,.int .i64 (if y=0 then 3 else 0)]) [-2^63<=x,x<2^63,-2^63<=y,y<2^63])
 |_=>none
def QU:Spec:=cD fun l=>match l with
 |[.rat q n,.rat r m]=>some (aO (.rat (q+r) (n+m+1)) [n<2^41,m<2^41])
 |_=>none
def Hf:bE:=[(92,QU),(52,AR),(103,QE)]
theorem w7:bY P uM:=aM NR (aM Qn (aM aaT (aM Zx (aM C3 (aM TJ (aM akE (aM Df (aM ajD cJ))))))))
theorem ZU {q r:Rat} {n m:Nat}:cy T uM [15,20,41,52] 60 f92 (aK f92) ⟨aZ 0 [.rat q n,.rat r m],[],0⟩=
  let g:=decide (r<0);let j:=2^38;let f:=q.den*r.den;let i:=decide (q<0);let h:=2^39;let e:=2^40;let d:=q.num.natAbs*r.den;let b:=r.num.natAbs*q.den;let a:=0<1;let k:=[nl f<j,f≠0,a];some (ag.aj [a] (ag.fork ((↑(nl q.num.natAbs):Int)==0) (ag.aj [a,a] (ag.aj [a] (ag.leaf au.ret [rat r m]))) (ag.aj [a] (ag.fork ((↑(nl r.num.natAbs):Int)==0) (ag.aj [a,a] (ag.aj [a] (ag.leaf au.ret [rat q n]))) (ag.aj [a,a,nl q.num.natAbs<h,nl r.den<h,a,a,nl r.num.natAbs<h,nl q.den<h] (ag.aj [a,a,nl q.den<h,nl r.den<h] (ag.aj [a,a] (ag.fork (i==g) (ag.aj (a::(nl d<e)::(nl b<e)::(nl (d+b)<j)::k) (ag.aj [a] (ag.leaf au.ret [rat (sQ i (d+b) f) (eJ (sQ i (d+b) f))]))) (ag.aj [nl d<e,nl b<e] (ag.fork (decide (eu d b<0)) (ag.aj [nl b<e,nl d<e] (ag.aj (a::(nl (b-d)<j)::k) (ag.aj [a] (ag.leaf au.ret [rat (sQ g (b-d) f) (eJ (sQ g (b-d) f))])))) (ag.aj [nl d<e,nl b<e] (ag.aj (a::(nl (d-b)<j)::k) (ag.aj [a] (ag.leaf au.ret [rat (sQ i (d-b) f) (eJ (sQ i (d-b) f))])))))))))))))):=ah
theorem T5 {q r:Rat} {n m:Nat}:cy T uM [] 60 f90 (aK f90) ⟨aZ 0 [.rat q n,.rat r m],[],0⟩=
  let e:=q.num.natAbs*r.num.natAbs;let b:=2^39;let a:=0<1;let d:=sQ (decide (q<0)!=decide (r<0)) e (q.den*r.den);some (ag.aj [a,a,a,a,nl q.num.natAbs<b,nl r.num.natAbs<b,a,a,nl q.den<b,nl r.den<b,nl e<2^38,nl (q.den*r.den)<2^38,q.den*r.den≠0,a] (ag.aj [a] (ag.leaf au.ret [rat d (eJ d)]))):=ah
theorem aey {q r:Rat} {n m:Nat}:cy T uM [14,17,30] 60 f27 (aK f27) ⟨aZ 0 [.rat q n,.rat r m],[],0⟩=
  let d:=eu (q.num.natAbs*r.den) (r.num.natAbs*q.den);let b:=2^39;let a:=0<1;some (ag.aj [a,a] (ag.fork (bK q !=bK r) (ag.fork (decide (bK q<bK r)) (ag.leaf au.ret [int .i64 (-1:Int)]) (ag.leaf au.ret [int .i64 (1:Int)])) (ag.aj [a,a,nl q.num.natAbs<b,nl r.den<b,a,a,nl r.num.natAbs<b,nl q.den<b,nl (q.num.natAbs*r.den)<2^40,nl (r.num.natAbs*q.den)<2^40] (ag.aj [a] (ag.fork (decide (q<0)) (ag.leaf au.ret [int .i64 (i64.wrap ((0:Int)-d))]) (ag.leaf au.ret [int .i64 d])))))):=ah
theorem Zn {x y:Int}:cy T uM [11] 60 f103 (aK f103) ⟨aZ 0 [.int .i64 x,.int .i64 y],[],0⟩=
  let b:=[(0:Nat)<1];let a:=(2:Int)^63;let d:=sQ (decide (x<0)!=decide (y<0)) x.natAbs y.natAbs;some (ag.fork (y==0) (ag.aj b (ag.aj b (ag.leaf au.ret [agg [AV.bool false,mag 0,mag 0],int .i64 (3:Int)]))) (ag.aj [-a<=x,x<a] (ag.aj [-a<=y,y<a] (ag.aj ((nl x.natAbs<2^38)::(nl y.natAbs<2^38)::(y.natAbs≠0)::b) (ag.aj b (ag.leaf au.ret [rat d (eJ d),int .i64 (0:Int)])))))):=ah
theorem akt {x:Int}:cy T uM [] 60 f23 (aK f23) ⟨aZ 0 [.int .i64 x],[],0⟩=
  some (ag.aj [-(2:Int)^63<=x,x<2^63] (ag.aj [(0:Nat)<1] (ag.aj [(0:Nat)<1] (ag.leaf au.ret [agg [AV.bool (decide (x<0)),mag x.natAbs,mag 0]])))):=ah
theorem Xf {q r:Rat} {n m:Nat}:cy T Hf [] 60 f53 (aK f53) ⟨aZ 0 [.rat q n,.rat r m],[],0⟩=
  let a:=0<1;some (ag.aj [a,a,n<2^41,m<2^41,a] (ag.aj [a] (ag.leaf au.ret [rat (q+-r) (n+m+1)]))):=ah
theorem acD {x y:Int}:cy T Hf [] 60 f46 (aK f46) ⟨aZ 0 [.int .i64 x,.int .i64 y],[],0⟩=
  let b:=0<1;let a:=(2:Int)^63;some (ag.aj [-a<=x,x<a,-a<=y,y<a,b] (ag.aj [b,b] (ag.aj [b] (ag.leaf au.ret [rat ((↑x:Rat)/(↑y:Rat)) 64])))):=ah
theorem gW {N n:Nat} (h:N<2^n) (hn:n<2^42):nl N<2^38:=by
 have h1:N<2^(32*(n/32+1)):=Nat.lt_of_lt_of_le h (Nat.pow_le_pow_right aa aa)
 have:=eP.2 h1
 omega
section ops
variable {q r:Rat} {n m:Nat}
theorem qM {a b n m:Nat} (ha:a<2^n) (hb:b<2^m):a*b<2^(n+m):=by rw[Nat.pow_add];exact Nat.mul_lt_mul'' ha hb
theorem LM (hn:n<2^41) (hm':m<2^41) (K:Nat):aW P 92 K [.rat q n,.rat r m] [] (aO (.rat (q+r) (n+m+1)) []):=by
 refine lJ fun⟨hq,hr,_⟩=>?_
 have hq:Sz q n:=hq
 have hr:Sz r m:=hr
 have d1:=q.den_nz
 have d2:=r.den_nz
 have hz:=hq.add hr
 have a1:nl q.num.natAbs<2^38:=gW hq.1 aa
 have a2:nl q.den<2^38:=gW hq.2 aa
 have b1:nl r.num.natAbs<2^38:=gW hr.1 aa
 have b2:nl r.den<2^38:=gW hr.2 aa
 have x1:=qM hq.1 hr.2
 have x2:=qM hr.1 hq.2
 have m1:nl (q.num.natAbs*r.den)<2^38:=gW x1 aa
 have m2:nl (r.num.natAbs*q.den)<2^38:=gW x2 aa
 have m3:nl (q.den*r.den)<2^38:=gW (qM hq.2 hr.2) aa
 have m4:nl (q.num.natAbs*r.den+r.num.natAbs*q.den)<2^38:=gW (n:=n+m+1) (by rw[Nat.pow_succ];rw[Nat.add_comm m n]at x2;omega) aa
 have hd0:q.den*r.den≠0:=Nat.mul_ne_zero d1 d2
 have hv:q+r=sQ (decide (q<0)) (q.num.natAbs*r.den) (q.den*r.den)+sQ (decide (r<0)) (r.num.natAbs*q.den) (q.den*r.den):=by
  have:=FR q r (decide (r<0))
  rw[mN r]at this
  exact this
 refine cB hT w7 hm SE rfl bh rfl 60 ZU (fun _=>?_) K []
 generalize q.num.natAbs*r.den=X at*
 generalize r.num.natAbs*q.den=Y at*
 generalize q.den*r.den=D at*
 simp only[ag.all,aC,beq_iff_eq,beq_eq_false_iff_ne,ne_eq,bI,bR,CS]
 have m5:nl (Y-X)<2^38:=Nat.lt_of_le_of_lt (jz aa) m2
 have m6:nl (X-Y)<2^38:=Nat.lt_of_le_of_lt (jz aa) m1
 refine⟨aa,fun hb=>⟨⟨aa,aa⟩,aa,eM ?_ hz⟩,fun hb=>⟨aa,fun hb2=>⟨⟨aa,aa⟩,aa,eM ?_ hz⟩,fun hb2=>⟨⟨aa,aa,aa,aa,aa,aa,aa,aa⟩,⟨aa,aa,aa,aa⟩,⟨aa,aa⟩,
  fun hs=>⟨⟨aa,aa,aa,m4,m3,hd0,aa⟩,aa,eM ?_ hz⟩,fun hs=>⟨⟨aa,aa⟩,fun hl=>⟨⟨aa,aa⟩,⟨aa,m5,m3,hd0,aa⟩,aa,eM ?_ hz⟩,fun hl=>⟨⟨aa,aa⟩,⟨aa,m6,m3,hd0,aa⟩,aa,eM ?_ hz⟩⟩⟩⟩⟩
 ·have h0:q=0:=pR.1 (lz.1 aa)
  rw[h0,Rat.zero_add]
 ·have h0:r=0:=pR.1 (lz.1 aa)
  rw[h0,Rat.add_zero]
 ·rw[hv,hs,EB hd0]
 ·rw[hv,HY hd0 hs aa]
 ·rw[hv,Fy hd0 hs aa]
theorem SS (hn:n<2^41) (hm':m<2^41) (K:Nat):aW P 90 K [.rat q n,.rat r m] [] (aO (.rat (q*r) (n+m)) []):=by
 refine lJ fun⟨hq,hr,_⟩=>?_
 have hq:Sz q n:=hq
 have hr:Sz r m:=hr
 have d1:=q.den_nz
 have d2:=r.den_nz
 have a1:nl q.num.natAbs<2^38:=gW hq.1 aa
 have a2:nl q.den<2^38:=gW hq.2 aa
 have b1:nl r.num.natAbs<2^38:=gW hr.1 aa
 have b2:nl r.den<2^38:=gW hr.2 aa
 have m1:nl (q.num.natAbs*r.num.natAbs)<2^38:=gW (qM hq.1 hr.1) aa
 have m3:nl (q.den*r.den)<2^38:=gW (qM hq.2 hr.2) aa
 have hv:sQ (decide (q<0)!=decide (r<0)) (q.num.natAbs*r.num.natAbs) (q.den*r.den)=q*r:=by rw[<-HF,mN,mN]
 refine cB hT w7 hm TV rfl bh rfl 60 T5 (fun _=>?_) K []
 simp only[ag.all,aC]
 exact⟨⟨aa,aa,aa,aa,aa,aa,aa,aa,aa,aa,m1,m3,Nat.mul_ne_zero d1 d2,aa⟩,aa,eM hv (hq.mul hr)⟩
theorem aiX (hn:n<2^41) (hm':m<2^41) (K:Nat):aW P 27 K [.rat q n,.rat r m] [] (aO (.int .i64 (g7 q r)) []):=by
 refine lJ fun⟨hq,hr,_⟩=>?_
 have hq:Sz q n:=hq
 have hr:Sz r m:=hr
 have a1:nl q.num.natAbs<2^38:=gW hq.1 aa
 have a2:nl q.den<2^38:=gW hq.2 aa
 have b1:nl r.num.natAbs<2^38:=gW hr.1 aa
 have b2:nl r.den<2^38:=gW hr.2 aa
 have m1:nl (q.num.natAbs*r.den)<2^38:=gW (qM hq.1 hr.2) aa
 have m2:nl (r.num.natAbs*q.den)<2^38:=gW (qM hr.1 hq.2) aa
 refine cB hT w7 hm af3 rfl bh rfl 60 aey (fun _=>?_) K []
 simp only[ag.all,aC,bne_iff_ne,ne_eq,bne_eq_false_iff_eq]
 refine⟨⟨aa,aa⟩,fun hs=>⟨fun hl=>cE ?_,fun hl=>cE ?_⟩,fun hs=>⟨⟨aa,aa,aa,aa,aa,aa,aa,aa,aa,aa⟩,aa,fun hc=>cE ?_,fun hc=>cE ?_⟩⟩
 ·rw[CI hs,if_pos (of_decide_eq_true hl)]
 ·rw[CI hs,if_neg (of_decide_eq_false hl)]
 ·rw[p9 hs,if_pos (of_decide_eq_true hc),Bx]
 ·rw[p9 hs,if_neg (of_decide_eq_false hc)]
end ops
theorem Mr {x y:Int} (hy:y≠0):sQ (decide (x<0)!=decide (y<0)) x.natAbs y.natAbs=(x:Rat)/(y:Rat):=by
 have h:=Gw (x:Rat) (y:Rat) (by simpa using hy)
 have c:∀{z:Int},decide ((z:Rat)<0)=decide (z<0):=fun {z}=>by rw[decide_eq_decide,kA,Rat.num_intCast]
 rw[c,c,Rat.num_intCast,Rat.num_intCast,Rat.den_intCast,Rat.den_intCast,Nat.mul_one,Nat.one_mul]at h
 exact h
theorem Q6 {x y:Int} (h1:-2^63<=x) (h2:x<2^63) (h3:-2^63<=y) (h4:y<2^63) (hy:y≠0):Sz ((x:Rat)/(y:Rat)) 64:=by
 rw[<-Mr hy];exact Iy aa aa aa
theorem Yg {x y:Int} (h1:-2^63<=x) (h2:x<2^63) (h3:-2^63<=y) (h4:y<2^63) (K:Nat):aW P 103 K [.int .i64 x,.int .i64 y] [] (aO (.tuple [.rat ((x:Rat)/(y:Rat)) 64,.int .i64 (if y=0 then 3 else 0)]) []):=by
 refine cB hT w7 hm aaC rfl bh rfl 60 Zn (fun _=>?_) K []
 simp only[ag.all,aC,beq_iff_eq,beq_eq_false_iff_ne,ne_eq]
 refine⟨fun hb=>⟨aa,aa,?_,cE (by rw[if_pos hb]),trivial⟩,fun hb=>⟨⟨h1,h2⟩,⟨h3,h4⟩,⟨gW (n:=64) aa aa,gW (n:=64) aa aa,aa,aa⟩,aa,eM (Mr hb) (Q6 h1 h2 h3 h4 hb),cE (by rw[if_neg hb]),trivial⟩⟩
 rw[hb,show((x:Rat)/((0:Int):Rat))=0 by rw[Rat.intCast_zero,Rat.div_def,Rat.inv_zero,Rat.mul_zero]]
 exact p8
theorem ajR {n:Int} (h1:-2^63<=n) (h2:n<2^63) (K:Nat):aW P 23 K [.int .i64 n] [] (aO (.rat (n:Rat) (max 1 (ck n.natAbs))) []):=by
 refine cB hT w7 hm adn rfl bh rfl 60 akt (fun _=>?_) K []
 simp only[ag.all,aC]
 refine⟨⟨h1,h2⟩,aa,aa,vm Je ?_ (by rw[Rat.num_intCast]) (by rw[Rat.den_intCast,if_pos rfl])⟩
 rw[decide_eq_decide,kA,Rat.num_intCast]
theorem aft:bp P QE 103:=by
 refine cZ fun K args r hk hs _=>?_
 split at hs
 ·simp only[aB]at hs
  subst hs
  exact fun need=>Yg need.1 need.2.1 need.2.2.1 need.2.2.2 K trivial
 ·simp at hs
theorem ahR:bp P QU 92:=by
 refine cZ fun K args r hk hs _=>?_
 split at hs
 ·simp only[aB]at hs
  subst hs
  exact fun need=>LM need.1 need.2 K trivial
 ·simp at hs
theorem JW:bY P Hf:=aM ahR (aM Df (aM aft cJ))
theorem aac {q r:Rat} {n m:Nat} (hn:n<2^41) (hm':m<2^41) (K:Nat):aW P 53 K [.rat q n,.rat r m] [] (aO (.rat (q-r) (n+m+1)) []):=by
 refine cB hT JW hm aic rfl bh rfl 60 Xf (fun _=>?_) K []
 simp only[ag.all,aC]
 exact⟨⟨aa,aa,hn,hm',aa⟩,aa,fG (by rw[Rat.sub_eq_add_neg])⟩
theorem ahn {x y:Int} (h1:-2^63<=x) (h2:x<2^63) (h3:-2^63<=y) (h4:y<2^63) (K:Nat):aW P 46 K [.int .i64 x,.int .i64 y] [] (aO (.rat ((x:Rat)/(y:Rat)) 64) []):=by
 refine cB hT JW hm TB rfl bh rfl 60 acD (fun _=>?_) K []
 simp only[ag.all,aC]
 exact⟨⟨h1,h2,h3,h4,aa⟩,⟨aa,aa⟩,aa,.refl _⟩
def Fb:Spec:=cD fun l=>match l with
 |[.int .i64 n]=>some (aO (.rat (n:Rat) (max 1 (ck n.natAbs))) [-2^63<=n,n<2^63])
 |_=>none
theorem Kg:bp P Fb 23:=by
 refine cZ fun K args r hk hs _=>?_
 split at hs
 ·simp only[aB]at hs
  subst hs
  exact fun need=>ajR need.1 need.2 K trivial
 ·simp at hs
def DS:Spec:=cD fun l=>match l with
 |[.int .i64 x,.int .i64 y]=>some (aO (.rat ((x:Rat)/(y:Rat)) 64) [-2^63<=x,x<2^63,-2^63<=y,y<2^63])
 |_=>none
theorem Ew:bp P DS 46:=by
 refine cZ fun K args r hk hs _=>?_
 split at hs
 ·simp only[aB]at hs
  subst hs
  exact fun need=>ahn need.1 need.2.1 need.2.2.1 need.2.2.2 K trivial
 ·simp at hs
end Go.Am.B
namespace Go.Am.B
open Go Go.Am.N AV Proofs.Tryz IntKind
theorem X5:bu 45 f45:=bC func45
theorem YV:bu 11 f11:=bC func11
theorem Zl:bu 14 f14:=bC func14
theorem SN:bu 44 f44:=bC func44
abbrev kZ (n:Nat) (f:Nat->AV) (a:Int):aA:=⟨false,true,2,1,fun _=>.agg [.aq 1 n f,.int .i64 a]⟩
theorem afO {x m:Int}:cy T [] [9] 60 f45 (aK f45) ⟨aZ 0 [.int .i64 x,.int .i64 m],[],0⟩=
  some (ag.aj [m≠(0:Int)] (ag.fork (decide (x.tmod m<0)) (ag.leaf au.ret [int .i64 (i64.wrap (x.tmod m+m))]) (ag.leaf au.ret [int .i64 (x.tmod m)]))):=ah
theorem ai0 {n:Nat} {f:Nat->AV}:cy T [] [] 60 f11 (aK f11) ⟨aZ 0 [.aq 1 n f],[],0⟩=
  some (ag.leaf au.ret [AV.bool (decide ((↑n:Int)<=500))]):=ah
theorem ab7 {n:Nat} {f:Nat->AV}:aL T [] [] 60 [2] [aK f14] ⟨aZ 0 [.aq 1 n f],[],0⟩=some (.leaf .ret ([.ptr 12288 0 2 0 []],[(12288,kZ n f 0)])):=ah
theorem af9 {x m:Int} (h1:0<m) (h2:m<2^62) (K:Nat):aW P 45 K [.int .i64 x,.int .i64 m] [] (aO (.int .i64 (x%m)) []):=by
 refine cB hT cJ hm X5 rfl bh rfl 60 afO (fun _=>?_) K []
 simp only[ag.all,aC,bI,bR]
 have h3:=Int.tmod_lt_of_pos x h1
 have h4:=Int.lt_tmod_of_pos x h1
 have h5:=Int.emod_nonneg x (show m≠0 by omega)
 have h6:=Int.emod_lt_of_pos x h1
 have h7:=Int.tmod_eq_emod (a:=x) (b:=m)
 have h8:∀{v:Int},v<0->v=x%m-((if 0<=x\/m∣x then 0 else m.natAbs:Nat):Int)->v+m=x%m:=fun {v} g1 g2=>by
  by_cases h:0<=x\/m∣x
  ·rw[if_pos h]at g2;omega
  ·rw[if_neg h]at g2;omega
 have h9:∀{v:Int},¬v<0->v=x%m-((if 0<=x\/m∣x then 0 else m.natAbs:Nat):Int)->v=x%m:=fun {v} g1 g2=>by
  by_cases h:0<=x\/m∣x
  ·rw[if_pos h]at g2;omega
  ·rw[if_neg h]at g2;omega
 refine⟨aa,fun hb=>cE ?_,fun hb=>cE (h9 hb h7)⟩
 rw[wrap_i64 aa aa]
 exact h8 hb h7
def CW:Spec:=cD fun l=>match l with
 |[.int .i64 x,.int .i64 m]=>some (aO (.int .i64 (x%m)) [0<m,m<2^62])
 |_=>none
def GM:bE:=[(45,CW)]
theorem Gv:bp P CW 45:=by
 refine cZ fun K args r hk hs _=>?_
 split at hs
 ·simp only[aB]at hs
  subst hs
  exact fun need=>af9 need.1 need.2 K trivial
 ·simp at hs
theorem adw:bY P GM:=aM Gv cJ
theorem aiU {n:Nat} {z:Nat->Int} {a m:Int}:zf T GM [14] 60 f44 (aK f44) ⟨aZ 0 [.ptr 0 0 2 0 [],.int .i64 m],[(0,kZ n (fun i=>.int .i64 (z i)) a)],1⟩=
  let f:=i64.wrap (a+1);let b:=0<1;let d:=agg [aq 1 n fun i=>int .i64 (z i),int .i64 a];let e:=i64.wrap (f-1);some (ag.aj [b,b] (ag.fork (decide (a>=(↑n:Int))) (ag.leaf au.ret ([int .i64 (0:Int)],some (aA.mk false true 2 1 fun x=>d))) (ag.aj [b,b] (ag.aj [b,b,(0:Int)<=e/\e.toNat<n,(0:Int)<m,m<2^62] (ag.leaf au.ret ([int .i64 (z e.toNat%m)],some (aA.mk false true 2 1 fun j=>if(j==0)=true then agg (d.kids.set 1 (eE (int .i64 f)))else d))))))):=ah
def intOf:AV->Int
 |.int _ n=>n
 |_=>0
def dm (n:Nat) (f:Nat->AV) (a m:Int):Int:=if(n:Int)<=a then 0 else intOf (f a.toNat)%m
def bV (n:Nat) (a:Int):Int:=if(n:Int)<=a then a else a+1
structure dL (n:Nat) (f:Nat->AV) (a:Int):Prop where
 ints:∀i,f i=.int .i64 (intOf (f i))
 lo:0<=a
 hi:a<=n
 len:n<2^62
theorem dL.next {n:Nat} {f:Nat->AV} {a:Int} (h:dL n f a):dL n f (bV n a):=
 ⟨h.ints,by have:=h.lo;unfold bV;split<;>omega,by have:=h.hi;unfold bV;split<;>omega,h.len⟩
theorem kj {n:Nat} {f:Nat->AV} {a m:Int} (hm:0<m):0<=dm n f a m:=by
 unfold dm;split
 ·omega
 ·exact Int.emod_nonneg _ aa
theorem ko {n:Nat} {f:Nat->AV} {a m:Int} (hm:0<m):dm n f a m<m:=by
 unfold dm;split
 ·omega
 ·exact Int.emod_lt_of_pos _ hm
theorem uo {ρ:Nat->Option Nat} {n:Nat} {f g:Nat->AV} {a b:Int} (h:f=g) (h2:a=b):eA ρ (kZ n f a) (kZ n g b):=by
 subst h h2
 exact⟨rfl,rfl,rfl,rfl,fun i hi=>fR rfl⟩
theorem Ym {k n:Nat} {z:Nat->Int} {a m:Int} {o:aA} (ho:∀ρ,eA ρ o (kZ n (fun i=>.int .i64 (z i)) a)) (h:dL n (fun i=>.int .i64 (z i)) a) (h1:0<m) (h2:m<2^62) (K:Nat):
  aW P 44 K [.ptr k 0 2 0 [],.int .i64 m] [(k,o)] ⟨.int .i64 (dm n (fun i=>.int .i64 (z i)) a m),[(k,kZ n (fun i=>.int .i64 (z i)) (bV n a))],[]⟩:=by
 refine H8 hT adw hm SN rfl rfl bh ho 60 aiU (fun _=>?_) K
 have h3:=h.lo
 have h4:=h.hi
 have h5:=h.len
 simp only[ag.all,aC,bI,bR]
 refine⟨⟨aa,aa⟩,fun hb=>⟨cE ?_,_,rfl,rfl,?_⟩,fun hb=>⟨⟨aa,aa⟩,?_⟩⟩
 ·unfold dm;rw[if_pos aa]
 ·exact uo rfl (by unfold bV;rw[if_pos aa])
 have e1:i64.wrap (a+1)=a+1:=wrap_i64 aa aa
 have e2:i64.wrap (a+1-1)=a:=by rw[wrap_i64 aa aa];omega
 rw[e1,e2]
 refine⟨⟨aa,aa,aa,h1,h2⟩,cE ?_,_,rfl,rfl,⟨rfl,rfl,rfl,rfl,fun i hi=>?_⟩⟩
 ·unfold dm;rw[if_neg aa];rfl
 ·rw[show i=0 by have:i<1:=hi;omega]
  show iO _ (.agg [.aq 1 n (fun i=>.int .i64 (z i)),.int .i64 (a+1)]) (.agg [.aq 1 n (fun i=>.int .i64 (z i)),.int .i64 (bV n a)])
  rw[show bV n a=a+1 by unfold bV;rw[if_neg aa]]
  exact fR rfl
def EC (k:Nat) (pre:aI):Option (Nat×(Nat->AV)×Int):=match pre with
 |[(k',o)]=>if k==k'&&!o.row&&o.wr&&o.es==2&&o.len==1 then match o.f 0 with
  |.agg [.aq 1 n f,.int .i64 a]=>some (n,f,a)
  |_=>none
  else none
 |_=>none
def lH (g:Nat->(Nat->AV)->Int->List AV->Option (AV×Int×List Prop)):Spec:=fun _ args pre=>match args with
 |.ptr k 0 2 0 []::l=>match EC k pre with
  |some (n,f,a)=>match g n f a l with
   |some (v,b,q)=>some ⟨v,[(k,kZ n f b)],dL n f a::q⟩
   |none=>none
  |none=>none
 |_=>none
theorem ahU {k:Nat} {pre:aI} {n:Nat} {f:Nat->AV} {a:Int} (h:EC k pre=some (n,f,a)):∃o,pre=[(k,o)]/\∀ρ,eA ρ o (kZ n f a):=by
 unfold EC at h
 split at h
 ·rename_i k' o
  split at h
  ·rename_i hc
   simp only[Bool.and_eq_true,beq_iff_eq,Bool.not_eq_true']at hc
   obtain⟨⟨⟨⟨rfl,h2⟩,h3⟩,h4⟩,h5⟩:=hc
   split at h
   ·rename_i n' f' a' hf
    simp only[aB,Prod.mk.injEq]at h
    obtain⟨rfl,rfl,rfl⟩:=h
    refine⟨o,rfl,fun ρ=>?_⟩
    obtain⟨row,wr,es,len,g⟩:=o
    simp only at h2 h3 h4 h5 hf
    subst h2 h3 h4 h5
    refine iQ rfl fun i hi=>?_
    rw[show i=0 by omega,hf]
    exact fR rfl
   ·simp at h
  ·simp at h
 ·simp at h
theorem Az {fid:FuncId} {g:Nat->(Nat->AV)->Int->List AV->Option (AV×Int×List Prop)}
  (h:∀{k n:Nat} {z:Nat->Int} {a:Int} {l:List AV} {v:AV} {b:Int} {q:List Prop} {o:aA} (K:Nat),g n (fun i=>.int .i64 (z i)) a l=some (v,b,q)->(∀ρ,eA ρ o (kZ n (fun i=>.int .i64 (z i)) a))->dL n (fun i=>.int .i64 (z i)) a->aC q->aW P fid K (.ptr k 0 2 0 []::l) [(k,o)] ⟨v,[(k,kZ n (fun i=>.int .i64 (z i)) b)],[]⟩):bp P (lH g) fid:=by
 intro K args pre r hs
 unfold lH at hs
 split at hs
 ·rename_i k l
  split at hs
  ·rename_i n f a hd
   split at hs
   ·rename_i v b q hv
    simp only[aB]at hs
    subst hs
    obtain⟨o,rfl,ho⟩:=ahU hd
    intro need
    obtain⟨hd,hq⟩:=(ia (a:=[dL n f a]) (b:=q)).1 need
    have hd:dL n f a:=hd
    obtain⟨z,rfl⟩:∃z:Nat->Int,f=fun i=>.int .i64 (z i):=⟨fun i=>intOf (f i),funext fun i=>hd.ints i⟩
    exact h K hv ho hd hq trivial
   ·simp at hs
  ·simp at hs
 ·simp at hs
def yH (n:Nat) (f:Nat->AV) (a:Int) (l:List AV):Option (AV×Int×List Prop):=match l with
 |[.int .i64 m]=>some (.int .i64 (dm n f a m),bV n a,[0<m,m<2^62])
 |_=>none
theorem Jk:bp P (lH yH) 44:=by
 refine Az fun {k n z a l v b q o} K hg ho hd hq=>?_
 unfold yH at hg
 split at hg
 ·simp only[aB,Prod.mk.injEq]at hg
  obtain⟨rfl,rfl,rfl⟩:=hg
  exact Ym ho hd hq.1 hq.2 K
 ·simp at hg
theorem aec:bu 87 f87:=bC func87
def GN:bE:=[(44,lH yH),(46,DS),(23,Fb)]
def ku (n:Nat) (f:Nat->AV) (a:Int):Rat:=if dm n f (bV n a) 4=3 then((dm n f a 13-6:Int):Rat)/((1+dm n f (bV n (bV n a)) 4:Int):Rat)else((dm n f a 13-6:Int):Rat)
def jO (n:Nat) (f:Nat->AV) (a:Int):Int:=if dm n f (bV n a) 4=3 then bV n (bV n (bV n a))else bV n (bV n a)
def DC (n:Nat) (f:Nat->AV) (a:Int) (l:List AV):Option (AV×Int×List Prop):=match l with
 |[]=>some (.rat (ku n f a) 64,jO n f a,[])
 |_=>none
def QO (n:Nat) (f:Nat->AV) (a:Int):Int:=jO n f (jO n f (jO n f a))
theorem afv:bY P GN:=aM Jk (aM Ew (aM Kg cJ))
theorem ajC {n:Nat} {z:Nat->Int} {a:Int}:zf T GN [8] 60 f87 (aK f87) ⟨aZ 0 [.ptr 0 0 2 0 []],[(0,kZ n (fun i=>.int .i64 (z i)) a)],1⟩=
  let h:=(2:Int)^62;let j:=aq 1 n fun i=>int .i64 (z i);let f:=bV n (bV n a);let e:=[(0:Nat)<1];let d:=(2:Int)^63;let b:=i64.wrap (dm n (fun i=>int .i64 (z i)) a (13:Int)-6);let g:=i64.wrap ((1:Int)+dm n (fun i=>int .i64 (z i)) f (4:Int));some (ag.aj [dL n (fun i=>int .i64 (z i)) a,(0:Int)<13,(13:Int)<h] (ag.aj [dL n (fun i=>int .i64 (z i)) (bV n a),(0:Int)<4,(4:Int)<h] (ag.fork (dm n (fun i=>int .i64 (z i)) (bV n a) (4:Int)==3) (ag.aj (dL n (fun i=>int .i64 (z i)) f::((0:Int)<4)::((4:Int)<h)::(-d<=b)::(b<d)::(-d<=g)::(g<d)::e) (ag.aj e (ag.leaf au.ret ([rat ((↑b:Rat)/(↑g:Rat)) 64],some (aA.mk false true 2 1 fun x=>agg [j,int .i64 (bV n f)]))))) (ag.aj ((-d<=b)::(b<d)::e) (ag.aj e (ag.leaf au.ret ([rat (↑b:Rat) (max 1 (ck b.natAbs))],some (aA.mk false true 2 1 fun x=>agg [j,int .i64 f])))))))):=ah
theorem dL.number {n:Nat} {f:Nat->AV} {a:Int} (h:dL n f a):dL n f (jO n f a):=by
 unfold jO;split
 ·exact h.next.next.next
 ·exact h.next.next
theorem dL.aa6 {n:Nat} {f:Nat->AV} {a:Int} (h:dL n f a):dL n f (QO n f a):=h.number.number.number
theorem AG {x y:Int} (h1:-2^63<=x) (h2:x<2^63):Sz (x:Rat) 64:=Je.more (by
 have:ck x.natAbs<=64:=kJ.2 aa
 omega)
theorem Wo {k n:Nat} {z:Nat->Int} {a:Int} {o:aA} (ho:∀ρ,eA ρ o (kZ n (fun i=>.int .i64 (z i)) a)) (h:dL n (fun i=>.int .i64 (z i)) a) (K:Nat):
  aW P 87 K [.ptr k 0 2 0 []] [(k,o)] ⟨.rat (ku n (fun i=>.int .i64 (z i)) a) 64,[(k,kZ n (fun i=>.int .i64 (z i)) (jO n (fun i=>.int .i64 (z i)) a))],[]⟩:=by
 refine H8 hT afv hm aec rfl rfl bh ho 60 ajC (fun _=>?_) K
 have a1:=kj (n:=n) (f:=fun i=>.int .i64 (z i)) (a:=a) (m:=13) aa
 have a2:=ko (n:=n) (f:=fun i=>.int .i64 (z i)) (a:=a) (m:=13) aa
 have b1:=kj (n:=n) (f:=fun i=>.int .i64 (z i)) (a:=bV n (bV n a)) (m:=4) aa
 have b2:=ko (n:=n) (f:=fun i=>.int .i64 (z i)) (a:=bV n (bV n a)) (m:=4) aa
 unfold ku jO
 generalize dm n (fun i=>.int .i64 (z i)) a 13=x at*
 generalize dm n (fun i=>.int .i64 (z i)) (bV n (bV n a)) 4=y at*
 generalize dm n (fun i=>.int .i64 (z i)) (bV n a) 4=w at*
 have e1:i64.wrap (x-6)=x-6:=wrap_i64 aa aa
 have e2:i64.wrap (1+y)=1+y:=wrap_i64 aa aa
 rw[e1,e2]
 simp only[ag.all,aC,beq_iff_eq,beq_eq_false_iff_ne,ne_eq]
 refine⟨⟨h,aa,aa⟩,⟨h.next,aa,aa⟩,fun hw=>⟨⟨h.next.next,aa,aa,aa,aa,aa,aa,aa⟩,aa,fG (by rw[if_pos hw]),_,rfl,rfl,uo rfl (by rw[if_pos hw])⟩,fun hw=>⟨⟨aa,aa,aa⟩,aa,?_,_,rfl,rfl,uo rfl (by rw[if_neg hw])⟩⟩
 rw[if_neg hw]
 exact eM rfl (AG (y:=0) aa aa)
theorem MR:bp P (lH DC) 87:=by
 refine Az fun {k n z a l v b q o} K hg ho hd hq=>?_
 unfold DC at hg
 split at hg
 ·simp only[aB,Prod.mk.injEq]at hg
  obtain⟨rfl,rfl,rfl⟩:=hg
  exact Wo ho hd K
 ·simp at hg
def Ow:Spec:=cD fun l=>match l with
 |[.aq 1 n _]=>some (aO (.bool (decide ((n:Int)<=500))) [])
 |_=>none
theorem agp:bp P Ow 11:=by
 refine cZ fun K args r hk hs _=>?_
 split at hs
 ·simp only[aB]at hs
  subst hs
  refine cB hT cJ hm YV rfl bh rfl 60 ai0 (fun _=>?_) K []
  exact .refl _
 ·simp at hs
def N5:Spec:=sN fun K l=>match l with
 |[.aq 1 n f]=>some ⟨.ptr K 0 2 0 [],[(K,kZ n f 0)],[]⟩
 |_=>none
theorem abX:bp P N5 14:=by
 refine xC fun K args r hk hs=>?_
 split at hs
 ·simp only[aB]at hs
  subst hs
  exact Yi hT cJ hm Zl hk rfl bh ah (q:=[]) 60 ab7 (.inr rfl) (fun ρ=>uo rfl rfl) K
 ·simp at hs
@[ext] structure V3 where
 x:Rat
 y:Rat
 z:Rat
structure Pl where
 n:V3
 d:Rat
abbrev rA (q:Rat) (n:Nat):AV:=.rat q n
abbrev vA (v:V3) (n:Nat):AV:=.agg [.rat v.x n,.rat v.y n,.rat v.z n]
theorem dG {q r:Rat} {n k:Nat} (h:q=r) (hk:n<=k):bf (.rat q n) (.rat r k):=h▸mB hk
structure Kind (α:Type) where
 read:AV->Option (α×List Prop)
 make:α->AV
 ok:∀{v:AV} {a:α} {q:List Prop},read v=some (a,q)->aC q->bf v (make a)
def oW:AV->Option (Rat×Nat)
 |.rat q n=>some (q,n)
 |.agg [.bool false,.mag 0,.mag 0]=>some (0,1)
 |_=>none
theorem wk {v:AV} {a:Rat×Nat} (h:oW v=some a):bf v (rA a.1 a.2):=by
 unfold oW at h
 split at h
 ·simp only[aB]at h;subst h;exact .refl _
 ·simp only[aB]at h;subst h;exact p8
 ·simp at h
def Fe (v:AV):Option ((Rat×Nat)×List Prop):=match oW v with
 |some a=>some (a,[])
 |none=>none
theorem Sl {v:AV} {a:Rat×Nat} {q:List Prop} (h:Fe v=some (a,q)) (_:aC q):bf v (rA a.1 a.2):=by
 unfold Fe at h
 split at h
 ·rename_i h1
  simp only[aB,Prod.mk.injEq]at h
  obtain⟨rfl,rfl⟩:=h
  exact wk h1
 ·simp at h
def kR:Kind (Rat×Nat):=⟨Fe,fun a=>rA a.1 a.2,Sl⟩
section specs
variable {α β γ δ:Type} {f:FuncId}
def GW (k:Kind α) (g:α->AV) (need:α->List Prop):Spec:=cD fun l=>match l with
 |[x]=>match k.read x with
  |some (a,p)=>some (aO (g a) (p++need a))
  |none=>none
 |_=>none
theorem P8 {k:Kind α} {g:α->AV} {need:α->List Prop} (h:∀a K,aC (need a)->aW P f K [k.make a] [] (aO (g a) [])):bp P (GW k g need) f:=by
 refine cZ fun K args r hk hs _=>?_
 split at hs
 ·split at hs
  ·rename_i h1
   simp only[aB]at hs
   subst hs
   intro hn
   obtain⟨n1,hn⟩:=ia.1 hn
   exact iz (h _ K hn) hk ⟨k.ok h1 n1,trivial⟩ [] trivial
  ·simp at hs
 ·simp at hs
def jU (k:Kind α) (k2:Kind β) (g:α->β->AV) (need:α->β->List Prop):Spec:=cD fun l=>match l with
 |[x,y]=>match k.read x,k2.read y with
  |some (a,p),some (b,q)=>some (aO (g a b) (p++(q++need a b)))
  |_,_=>none
 |_=>none
theorem jX {k:Kind α} {k2:Kind β} {g:α->β->AV} {need:α->β->List Prop} (h:∀a b K,aC (need a b)->aW P f K [k.make a,k2.make b] [] (aO (g a b) [])):bp P (jU k k2 g need) f:=by
 refine cZ fun K args r hk hs _=>?_
 split at hs
 ·split at hs
  ·rename_i h1 h2
   simp only[aB]at hs
   subst hs
   intro hn
   obtain⟨n1,hn⟩:=ia.1 hn
   obtain⟨n2,hn⟩:=ia.1 hn
   exact iz (h _ _ K hn) hk ⟨k.ok h1 n1,k2.ok h2 n2,trivial⟩ [] trivial
  ·simp at hs
 ·simp at hs
end specs
def sj (a b:Rat×Nat):List Prop:=[a.2<2^42,b.2<2^42]
def pW (a b:Rat×Nat):List Prop:=[a.2<2^41,b.2<2^41]
def AW (a b:Rat×Nat):AV:=rA (a.1+b.1) (a.2+b.2+1)
def Oy (a b:Rat×Nat):AV:=rA (a.1-b.1) (a.2+b.2+1)
def IC (a b:Rat×Nat):AV:=rA (a.1*b.1) (a.2+b.2)
def Dh (a b:Rat×Nat):AV:=.tuple [rA (a.1/b.1) (a.2+b.2),.int .i64 (if b.1=0 then 3 else 0)]
def aie (a b:Rat×Nat):AV:=rA (fk a.1 b.1) (max a.2 b.2)
def Yz (a b:Rat×Nat):AV:=rA (fl a.1 b.1) (max a.2 b.2)
def Pw (a b:Rat×Nat):AV:=.int .i64 (g7 a.1 b.1)
def Kj (a b:Rat×Nat):AV:=.bool (decide (a.1=b.1))
def OW (a:Rat×Nat):AV:=.int .i64 (bK a.1)
abbrev GX:FuncId×Spec:=(71,J9)
def iC:bE:=[(128,jU kR kR AW sj),(143,jU kR kR Oy sj),(129,jU kR kR IC sj),(110,jU kR kR Kj sj),(58,jU kR kR Pw sj),(65,GW kR OW fun a=>[a.2<2^42]),GX]
def iH:bE:=[(92,jU kR kR AW pW),(53,jU kR kR Oy pW),(90,jU kR kR IC pW),(26,jU kR kR Kj pW),(27,jU kR kR Pw pW),(24,GW kR OW fun a=>[a.2<2^41]),(23,Fb)]
theorem aj2:bp P GX.2 GX.1:=aeY
theorem iG:bY P iC:=aM (jX fun _ _ K hn=>afn hn.1 hn.2 K) (aM (jX fun _ _ K hn=>ahp hn.1 hn.2 K) (aM (jX fun _ _ K hn=>JX hn.1 hn.2 K)
 (aM (jX fun _ _ K hn=>abK (Nat.lt_trans hn.1 aa) (Nat.lt_trans hn.2 aa) K []) (aM (jX fun _ _ K hn=>QH hn.1 hn.2 K []) (aM (P8 fun _ K hn=>Nc (Nat.lt_trans hn aa) K []) (aM aj2 cJ))))))
theorem iE:bY P iH:=aM (jX fun _ _ K hn=>LM hn.1 hn.2 K) (aM (jX fun _ _ K hn=>aac hn.1 hn.2 K) (aM (jX fun _ _ K hn=>SS hn.1 hn.2 K)
 (aM (jX fun _ _ K hn=>aiu (Nat.lt_trans hn.1 aa) (Nat.lt_trans hn.2 aa) K []) (aM (jX fun _ _ K hn=>aiX hn.1 hn.2 K) (aM (P8 fun _ K _=>K8 K []) (aM Kg cJ))))))
end Go.Am.B
namespace Go.Am.B
def zx (n:Nat) (f:Nat->Rat):Rat:=match n with
 |0=>0
 |n+1=>zx n f+f n
structure Kn (n p:Nat) (k:Nat->Rat):Prop where
 p1:1<=p
 len:2*p+2<=n
 sorted:∀i,i+1<n->k i<=k (i+1)
 first:∀i,i<=p->k i=k 0
 last:∀i,n<=i+p+1->i<n->k i=k (n-1)
 mult:∀i,1<=i->i+p+1<n->k i<k (i+p)
theorem Ir {n:Nat} {k:Nat->Rat} (h:∀i,i+1<n->k i<=k (i+1)) {i:Nat}:∀{j:Nat},i<=j->j<n->k i<=k j
 |0,hij,_=>by
    have:i=0:=by omega
    subst this;exact Rat.le_refl
 |j+1,hij,hj=>by
  by_cases he:i=j+1
  ·subst he;exact Rat.le_refl
  ·exact Rat.le_trans (Ir h (j:=j) (by omega) (by omega)) (h j hj)
theorem Kn.mono {n p:Nat} {k:Nat->Rat} (h:Kn n p k) {i j:Nat} (hij:i<=j) (hj:j<n):k i<=k j:=Ir h.sorted hij hj
def fr (a b t:Rat):Rat:=(t-a)/(b-a)
def vB (k:Nat->Rat) (i:Nat) (t:Rat):Nat->Nat->Rat
 |0,j=>if j=0 then 1 else 0
 |d+1,j=>(if j=0 then 0 else fr (k (i-d+(j-1))) (k (i-d+(j-1)+(d+1))) t*vB k i t d (j-1))+
   (if j<=d then(1-fr (k (i-d+j)) (k (i-d+j+(d+1))) t)*vB k i t d j else 0)
structure At (n:Nat) (k:Nat->Rat) (i:Nat):Prop where
 lt:i+1<n
 sorted:∀i,i+1<n->k i<=k (i+1)
 wide:k i<k (i+1)
def W8 (k:Nat->Rat) (b p r:Nat) (t:Rat) (x:Nat->Rat) (j:Nat):Rat:=
 if r<j then x (j-1)+fr (k (b+j)) (k (b+j+(p-r))) t*(x j-x (j-1))else x j
def bl (k:Nat->Rat) (b p:Nat):Nat->(Nat->Rat)->List Rat->Nat->Rat
 |_,x,[]=>x
 |r,x,t::l=>bl k b p (r+1) (W8 k b p r t x) l
variable {k:Nat->Rat} {b p:Nat}
variable {n:Nat}
end Go.Am.B
namespace Go.Am.B
def O9 (g:Nat->Bool):Nat->Nat
 |0=>0
 |m+1=>if g m then m else O9 g m
def Rt (n:Nat) (k:Nat->Rat) (t:Rat):Nat:=O9 (fun i=>decide (k i<k (i+1))&&decide (k i<=t)) (n-1)
open AV
def aN:AV->Rat
 |.rat q _=>q
 |_=>0
def cL (f:Nat->AV) (n s:Nat):Prop:=∀i,i<n->bf (f i) (.rat (aN (f i)) s)
abbrev bG (k:Nat->Rat) (n s:Nat):AV:=.aq 3 n (fun i=>.rat (k i) s)
theorem eO {k:Nat->Rat} {n s s':Nat} (h:s<=s'):cL (fun i=>.rat (k i) s) n s':=fun _ _=>mB h
theorem V7 {f:Nat->AV} {n s:Nat} (h:cL f n s):bf (.aq 3 n f) (bG (fun i=>aN (f i)) n s):=jk h
def tQ:AV->Option (Nat×(Nat->AV))
 |.aq 3 n f=>some (n,f)
 |.nil=>some (0,fun _=>.rat 0 1)
 |_=>none
theorem adA {v:AV} {n s:Nat} {f:Nat->AV} (h:tQ v=some (n,f)) (ha:cL f n s):bf v (bG (fun i=>aN (f i)) n s):=by
 unfold tQ at h
 split at h
 ·simp only[aB,Prod.mk.injEq]at h
  obtain⟨rfl,rfl⟩:=h
  exact V7 ha
 ·simp only[aB,Prod.mk.injEq]at h
  obtain⟨rfl,rfl⟩:=h
  exact mT aa
 ·simp at h
end Go.Am.B
namespace Go.Am
def bn:Nat->Nat->Nat
 |_,0=>1
 |0,_+1=>0
 |n+1,k+1=>bn n k+bn n (k+1)
theorem sy (n:Nat):bn n 0=1:=by cases n<;>rfl
theorem qA (n k:Nat):bn (n+1) (k+1)=bn n k+bn n (k+1):=rfl
theorem pT:∀{n k:Nat},n<k->bn n k=0
 |0,_+1,_=>rfl
 |n+1,k+1,h=>by rw[qA,pT (by omega),pT (by omega)]
theorem NX:∀n:Nat,bn n n=1
 |0=>rfl
 |n+1=>by rw[qA,NX n,pT (by omega)]
theorem uw:∀n k:Nat,bn n k<=2^n
 |0,0=>by decide
 |0,_+1=>by rw[pT (by omega)];exact Nat.zero_le _
 |n+1,0=>by rw[sy];exact Nat.one_le_two_pow
 |n+1,k+1=>by
  have h1:=uw n k
  have h2:=uw n (k+1)
  rw[qA,Nat.pow_succ];omega
theorem Du:∀{n k:Nat},k<=n->0<bn n k
 |n,0,_=>by rw[sy];exact Nat.one_pos
 |n+1,k+1,h=>by
  have:=Du (n:=n) (k:=k) (by omega)
  rw[qA];omega
theorem BH {n k:Nat} (h:n<=40):bn n k<=2^40:=Nat.le_trans (uw n k) (Nat.pow_le_pow_right (by decide) h)
theorem Ce:∀n k:Nat,(k+1)*bn n (k+1)=(n-k)*bn n k
 |0,0=>rfl
 |0,k+1=>by rw[pT (by omega),Nat.zero_sub];simp
 |n+1,0=>by
  have:=Ce n 0
  simp only[sy,Nat.zero_add,Nat.one_mul,Nat.sub_zero,Nat.mul_one]at this ⊢
  rw[qA,sy,this];omega
 |n+1,k+1=>by
  have h1:=Ce n k
  have h2:=Ce n (k+1)
  rw[qA n (k+1),qA n k,show n+1-(k+1)=n-k by omega]
  by_cases h:k+1<=n
  ·obtain⟨m,rfl⟩:∃m,n=k+1+m:=⟨n-(k+1),by omega⟩
   rw[show k+1+m-(k+1)=m by omega]at h2
   rw[show k+1+m-k=m+1 by omega]at h1 ⊢
   generalize bn (k+1+m) (k+1+1)=A at*
   generalize bn (k+1+m) (k+1)=B at*
   generalize bn (k+1+m) k=C at*
   have e1:(k+1+1)*(B+A)=(k+1)*B+B+(k+1+1)*A:=by rw[Nat.mul_add,Nat.add_mul (k+1) 1 B,Nat.one_mul]
   have e2:(m+1)*(C+B)=(m+1)*C+(m*B+B):=by rw[Nat.mul_add,Nat.add_mul m 1 B,Nat.one_mul]
   rw[e1,e2,h2,h1];omega
  ·rw[pT (n:=n) (k:=k+1+1) (by omega)]
   by_cases h3:k=n
   ·subst h3
    rw[pT (by omega),Nat.sub_self];simp
   ·rw[pT (n:=n) (k:=k+1) (by omega),pT (n:=n) (k:=k) (by omega)];simp
end Go.Am
namespace Go.Am.B
open Go Go.Am.N AV ag au IntKind Proofs.Tryz
abbrev rO (n:Nat) (g:Nat->Int):aA:=⟨true,true,1,n,fun i=>.int .i64 (g i)⟩
abbrev cI (m:Nat) (k:Nat->Rat) (s:Nat):aA:=⟨true,true,3,m,fun i=>.rat (k i) s⟩
def GZ:bE:=zG::iC
abbrev B2:Code:=aK f158
abbrev An:Code:=part B2 [1,1,0,1,0,0]
abbrev Cd:Code:=part An [1,1,0,0]
abbrev ua:Code:=part B2 [1,1,1]
abbrev uQ:List Nat:=[0,3,9,10]
abbrev Ec (n r:Nat):List AV:=[.int .i64 n,.own 0 1 0 (r+1),.int .i64 n,.int .i64 r]
abbrev yc:List Nat:=[0,3,9,10,4]
abbrev I8 (n r j:Nat):List AV:=[.int .i64 n,.own 0 1 0 (r+1+1),.int .i64 n,.int .i64 r,.int .i64 j]
abbrev yD:List Nat:=[37,5,38,39]
abbrev IM (n i:Nat):List AV:=[.own 0 1 0 (n+1),.own 1 3 0 (n+1),.int .i64 (n+1:Nat),.int .i64 i]
abbrev ID (n:Nat) (g:Nat->Int) (x:Nat->Rat):aI:=[(1,cI (n+1) x 64),(0,rO (n+1) g)]
theorem K4:bu 158 f158:=bC func158
theorem Y4 {n:Nat}:aL T GZ [] 60 uQ (before B2 [1,1,0,1]) ⟨aZ 0 [.int .i64 n],[],0⟩=
  some (aj [(1:Nat)*1<=2^24] (leaf normal ([int i64 (↑n:Int),own 4096 1 0 1,int i64 (↑n:Int),int i64 0],[(4096,aA.mk true true 1 1 fun i=>nth [int i64 1] (int i64 0) i)]))):=ah
theorem aaq {n r:Nat} {g:Nat->Int}:aL T GZ [11] 60 uQ (before An [1,1,0]) ⟨aH uQ (Ec n r),[(0,rO (r+1) g)],1⟩=
  let a:=(↑n:Int);let b:List AV×aI:=([int i64 a,own 0 1 0 (r+1),int i64 a,int i64 (↑r:Int)],[(0,aA.mk true true 1 (r+1) fun i=>int i64 (g i))]);some (fork (decide ((↑r:Int)<a)) (leaf normal b) (leaf (exit 0) b)):=ah
theorem agY {n r:Nat} {g:Nat->Int}:aL T GZ [] 60 yc (before Cd [1,1]) ⟨aH uQ (Ec n r),[(0,rO (r+1) g)],1⟩=
  let d:=r+1;let a:=d+1;let b:=(↑a:Int)-2;some (aj [(1:Nat)*1<=2^24,a*((8:Nat)+1)*2<=2^47] (aj [-(2:Int)^63<=b/\b<2^63] (leaf normal ([int i64 (↑n:Int),own 8193 1 0 a,int i64 (↑n:Int),int i64 (↑r:Int),int i64 b],[(8193,aA.mk true true 1 a fun i=>if i<d then int i64 (g i)else nth [int i64 1] (int i64 0) (i-d+0))])))):=ah
theorem WK {n r j:Nat} {g:Nat->Int}:aL T GZ [19] 60 yc [part Cd [1,1,0,0]] ⟨aH yc (I8 n r j),[(0,rO (r+1+1) g)],1⟩=
  let h:=int i64 (↑n:Int);let e:=(↑j:Int);let d:=(2:Int)^63;let b:=r+1+1;let m:=(0:Int)<=e/\e.toNat<b;let l:=own 0 1 0 b;let f:=e.toNat+0;let a:=e-1;let k:=g f+g (a.toNat+0);some (fork (decide (e>0)) (aj [m,f<b,-d<=a/\a<d,(0:Int)<=a/\a.toNat<b,a.toNat+0<b,-d<=k/\k<d,m,f<b] (aj [-d<=a/\a<d] (leaf normal ([h,l,h,int i64 (↑r:Int),int i64 a],[(0,aA.mk true true 1 b fun j=>int i64 (bif j==f then k else g j))])))) (leaf (exit 2) ([h,l,h,int i64 (↑r:Int),int i64 e],[(0,aA.mk true true 1 b fun i=>int i64 (g i))]))):=ah
theorem adL {n r j:Nat} {g:Nat->Int}:aL T GZ [] 60 uQ [part An [1,1,1]] ⟨aH yc (I8 n r j),[(0,rO (r+1+1) g)],1⟩=
  let b:=r+1+1;let a:=(↑r:Int)+1;some (aj [-(2:Int)^63<=a/\a<2^63] (leaf normal ([int i64 (↑n:Int),own 0 1 0 b,int i64 (↑n:Int),int i64 a],[(0,aA.mk true true 1 b fun i=>int i64 (g i))]))):=ah
theorem YW {n r:Nat} {g:Nat->Int}:aL T GZ [] 60 yD (before ua [1,0,1]) ⟨aH uQ (Ec n r),[(0,rO (r+1) g)],1⟩=
  let a:=(↑(r+1):Int);some (aj [(0:Int)<=a/\a<=a/\a<=2^47/\a*(↑(56:Nat):Int)<=2^47] (leaf normal ([own 0 1 0 (r+1),own 8193 3 0 a.toNat,int i64 a,int i64 0],[(8193,aA.mk true true 3 a.toNat fun x=>rat 0 1),(0,aA.mk true true 1 (r+1) fun i=>int i64 (g i))]))):=ah
theorem Zg {n i:Nat} {g:Nat->Int} {x:Nat->Rat}:aL T GZ [40] 60 yD [part ua [1,0,1,0,0]] ⟨aH yD (IM n i),ID n g x,2⟩=
  let f:=(2:Int)^63;let e:=(↑i:Int);let a:=n+1;let d:=e+1;let h:=(↑a:Int);let m:=own 0 1 0 a;let l:=own 1 3 0 a;let k:Nat×aA:=(0,aA.mk true true 1 a fun i=>int i64 (g i));let b:=e.toNat+0;let o:=[(0:Int)<=e/\e.toNat<a,b<a];some (fork (decide (e<h)) (aj o (aj ((-f<=g b)::(g b<f)::o) (aj [-f<=d/\d<f] (leaf normal ([m,l,int i64 h,int i64 d],[(1,aA.mk true true 3 a fun j=>rat (bif j==b then(↑(g b):Rat)else x j) (bif j==b then Max.max 1 (ck (g b).natAbs)else 64)),k]))))) (leaf (exit 4) ([m,l,int i64 h,int i64 e],[(1,aA.mk true true 3 a fun i=>rat (x i) 64),k]))):=ah
theorem Uv {n i:Nat} {g:Nat->Int} {x:Nat->Rat}:dc T GZ [] 60 f158 [part ua [1,1]] ⟨aH yD (IM n i),ID n g x,2⟩=
  some (leaf ret [aq 3 (n+1) fun i=>rat (x (i+0)) 64]):=ah
theorem qP:bY P GZ:=iu iG
def ql (r j i:Nat):Int:=if i<=j then(if i=r+1 then 1 else(bn r i:Int))else bn (r+1) i
theorem N6 {r j i:Nat} (hr:r<40) (hi:i<=r):-2^41<=ql r j i/\ql r j i<=2^40:=by
 have h1:=BH (n:=r) (k:=i) aa
 have h2:=BH (n:=r+1) (k:=i) aa
 unfold ql;rw[if_neg (c:=i=r+1) aa];split<;>omega
theorem VW {n:Nat} (hn:n<=40) (K:Nat):aW P 158 K [.int .i64 n] [] (aO (bG (fun i=>((bn n i:Int):Rat)) (n+1) 64) []):=by
 refine jj (r:=aO (bG (fun i=>((bn n i:Int):Rat)) (n+1) 64) []) hT K4 rfl bh rfl (fun _ cx h0=>?_) K []
 have hk:=nr h0
 refine az.rI hT qP hm (x:=B2) [1,1,0,1] (i:=0) (y:=An) (z:=ua) ah ah ah K4.dst [1,1,0] (j:=1) (x1:=Cd) (zb:=part An [1,1,1]) ah ah ah [1,1] (i2:=2) (y2:=part Cd [1,1,0,0]) ah ah rfl hk
  (f1:=[]) (f2:=[11]) (f3:=[]) (f4:=[19]) (f5:=[]) 60 uQ yc 1 1 (fun r:Nat=>Ec n r) (fun r=>[(0,rO (r+1) fun i=>bn r i)]) (fun r=>r<=n) (fun r=>r=n) (fun r=>n-r) (fun r=>r<n) (fun _=>False) (fun _=>False)
  (fun r (j:Nat)=>I8 n r j) (fun r j=>[(0,rO (r+1+1) (ql r j))]) (fun r j=>j<=r) (fun _ j=>j=0) (fun _ j=>j)
  ⟨_,Y4,?_⟩ (fun r hr=>⟨_,aaq,?_⟩) (fun r hr hG=>⟨_,agY,?_⟩) (fun r hr hG j hj=>⟨_,WK,?_⟩) (fun r hr hG j hj=>⟨_,adL,?_⟩) (fun r hr=>?_) (fun _ _ h=>h.elim) (fun _ _ h=>h.elim)
 ·simp only[ag.all,aC]
  refine⟨aa,0,aa,[(0,4096)],rfl,rfl,rfl,bF rfl rfl rfl (fun i hi=>by obtain rfl:i=0:=aa;exact bT rfl rfl) trivial⟩
 ·simp only[ag.all,aC,bI,bR]
  exact⟨fun h=>⟨aa,[(0,0)],rfl,rfl,rfl,bF rfl rfl rfl (fun i hi=>bT rfl rfl) trivial⟩,fun h=>⟨rfl,r,aa,[(0,0)],rfl,rfl,rfl,bF rfl rfl rfl (fun i hi=>bT rfl rfl) trivial⟩⟩
 ·simp only[ag.all,aC]
  refine⟨aa,aa,r,aa,[(0,8193)],rfl,?_,rfl,bF rfl rfl rfl (fun i hi=>bT ?_ ?_) trivial⟩
  ·rw[show((r+1+1:Nat):Int)-2=(r:Nat) by omega];rfl
  ·split
   ·rfl
   ·rw[show i-(r+1)+0=0 by omega];rfl
  ·unfold ql
   by_cases h:i<r+1
   ·rw[if_pos h,if_pos aa,if_neg aa]
   ·rw[if_neg h,if_neg aa,show i-(r+1)+0=0 by omega,show i=r+1 by omega,NX];rfl
 ·simp only[ag.all,aC,bI,bR,bS,Nat.add_zero]
  refine⟨fun h=>?_,fun h=>⟨rfl,j,aa,[(0,0)],rfl,rfl,rfl,bF rfl rfl rfl (fun i hi=>bT rfl rfl) trivial⟩⟩
  obtain⟨m,rfl⟩:∃m,j=m+1:=⟨j-1,aa⟩
  have e1:(((m+1:Nat):Int)-1).toNat=m:=aa
  have h1:=N6 (r:=r) (j:=m+1) (i:=m+1) aa hj
  have h2:=N6 (r:=r) (j:=m+1) (i:=m) aa aa
  rw[e1]
  refine⟨aa,aa,m,aa,by dsimp only;omega,[(0,0)],rfl,?_,rfl,bF rfl rfl rfl (fun i hi=>bT rfl ?_) trivial⟩
  ·rw[show((m+1:Nat):Int)-1=(m:Nat) by omega];rfl
  ·by_cases h:i=m+1
   ·subst h
    simp only[beq_self_eq_true,cond_true]
    unfold ql
    rw[if_pos aa,if_neg aa,if_pos aa,if_neg aa,if_neg aa,qA,Int.natCast_add,Int.add_comm]
   ·have hb:(i==m+1)=false:=by simpa using h
    rw[hb,cond_false]
    unfold ql
    by_cases h2:i<=m
    ·rw[if_pos h2,if_pos aa]
    ·rw[if_neg h2,if_neg aa]
 ·subst hj
  simp only[ag.all,aC]
  refine⟨aa,r+1,aa,by dsimp only;omega,[(0,0)],rfl,rfl,rfl,bF rfl rfl rfl (fun i hi=>bT rfl ?_) trivial⟩
  show AV.int i64 (ql r 0 i)=AV.int i64 (bn (r+1) i)
  unfold ql
  by_cases h:i<=0
  ·rw[if_pos h,if_neg aa,show i=0 by omega,sy,sy]
  ·rw[if_neg h]
 ·subst hr
  refine az.qZ hT qP hm (x:=ua) [1,0,1] (i:=4) (y:=part ua [1,0,1,0,0]) (z:=part ua [1,1]) ah ah ah ah hk (f1:=[]) (f2:=[40]) 60 yD 2 (fun i:Nat=>IM r i) (fun i=>ID r (fun i=>bn r i) fun j=>if j<i then((bn r j:Int):Rat)else 0)
   (fun i=>i<=r+1) (fun i=>i=r+1) (fun i=>r+1-i) (fun _=>False) ⟨_,YW,?_⟩ (fun i hi=>⟨_,Zg,?_⟩) (fun i hi=>?_) (fun _ _ h=>h.elim)
  ·simp only[ag.all,aC,bS]
   exact⟨aa,0,aa,[(0,0),(1,8193)],rfl,rfl,rfl,bF rfl rfl rfl (fun i hi=>.inr ⟨rfl,dG (if_neg (Nat.not_lt_zero i)).symm (by decide)⟩) (bF rfl rfl rfl (fun i hi=>bT rfl rfl) trivial)⟩
  ·have h1:=BH (n:=r) (k:=i) hn
   simp only[ag.all,aC,bI,bR,bS,Nat.add_zero]
   refine⟨fun h=>⟨aa,aa,aa,i+1,aa,by dsimp only;omega,[(0,0),(1,1)],rfl,rfl,rfl,bF rfl rfl rfl (fun j hj=>.inr ⟨rfl,?_⟩) (bF rfl rfl rfl (fun i hi=>bT rfl rfl) trivial)⟩,fun h=>⟨rfl,i,aa,[(0,0),(1,1)],rfl,rfl,rfl,bF rfl rfl rfl (fun j hj=>bT rfl rfl) (bF rfl rfl rfl (fun i hi=>bT rfl rfl) trivial)⟩⟩
   by_cases h2:j=i
   ·subst h2
    simp only[beq_self_eq_true,cond_true]
    exact eM (if_pos (Nat.lt_succ_self j)).symm (by rw[if_pos (Nat.lt_succ_self j)];exact AG (y:=0) aa aa)
   ·have hb:(j==i)=false:=by simpa using h2
    rw[hb,cond_false,cond_false]
    refine dG ?_ aX
    show(if j<i then _ else _)=if j<i+1 then _ else _
    by_cases h3:j<i
    ·rw[if_pos h3,if_pos aa]
    ·rw[if_neg h3,if_neg aa]
  ·subst hi
   refine az.nR ((aJ.fin hT qP hm 60 Uv ah (jk fun i hi=>dG ?_ aX)).mono fun _ _ h=>.inl h)
   rw[Nat.add_zero,if_pos hi]
def Hl:Spec:=cD fun l=>match l with
 |[.int .i64 n]=>some (aO (bG (fun i=>((bn n.toNat i:Int):Rat)) (n.toNat+1) 64) [0<=n,n<=40])
 |_=>none
theorem QC:bp P Hl 158:=by
 refine cZ fun K args r hk hs _=>?_
 split at hs
 ·rename_i n
  simp only[aB]at hs
  subst hs
  intro hn
  have h1:0<=n:=hn.1
  have h2:n<=40:=hn.2
  have:=VW (n:=n.toNat) aa K
  rw[Int.toNat_of_nonneg h1]at this
  exact this trivial
 ·simp at hs
open Go Go.Am.N AV Proofs.Tryz IntKind
theorem ae8:bu 51 f51:=bC func51
def aa9:bE:=[(45,CW),(46,DS)]
theorem aeL {d:Int}:cy T aa9 [] 60 f51 (aK f51) ⟨aZ 0 [.int .i64 d],[],0⟩=
  some (ag.aj [(17:Int)≠(0:Int),(0:Int)<12,(12:Int)<2^62] (ag.aj [(0:Int)<i64.wrap (i64.wrap ((1:Int)+i64.wrap (d.tdiv (17:Int))%(12:Int))+1),i64.wrap (i64.wrap ((1:Int)+i64.wrap (d.tdiv (17:Int))%(12:Int))+1)<2^62,-(2:Int)^63<=d%i64.wrap (i64.wrap ((1:Int)+i64.wrap (d.tdiv (17:Int))%(12:Int))+1),d%i64.wrap (i64.wrap ((1:Int)+i64.wrap (d.tdiv (17:Int))%(12:Int))+1)<2^63,-(2:Int)^63<=i64.wrap ((1:Int)+i64.wrap (d.tdiv (17:Int))%(12:Int)),i64.wrap ((1:Int)+i64.wrap (d.tdiv (17:Int))%(12:Int))<2^63,(0:Nat)<1] (ag.aj [(0:Nat)<1] (ag.leaf au.ret [rat ((↑(d%i64.wrap (i64.wrap ((1:Int)+i64.wrap (d.tdiv (17:Int))%(12:Int))+1)):Rat)/(↑(i64.wrap ((1:Int)+i64.wrap (d.tdiv (17:Int))%(12:Int))):Rat)) 64])))):=ah
def jL (d:Int):Int:=1+i64.wrap (d.tdiv 17)%12
def mM (d:Int):Rat:=((d%(jL d+1):Int):Rat)/((jL d:Int):Rat)
def J2:Spec:=cD fun l=>match l with
 |[.int .i64 d]=>some (aO (.rat (mM d) 64) [])
 |_=>none
theorem SD:bp P J2 51:=by
 refine cZ fun K args r hk hs _=>?_
 split at hs
 ·rename_i d
  simp only[aB]at hs
  subst hs
  refine cB hT (aM Gv (aM Ew cJ)) hm ae8 rfl bh rfl 60 aeL (fun _=>?_) K []
  unfold mM jL
  generalize i64.wrap (d.tdiv 17)=w at*
  have w1:=Int.emod_nonneg w (show(12:Int)≠0 by omega)
  have w2:=Int.emod_lt_of_pos w (show(0:Int)<12 by omega)
  generalize w%12=x at*
  have e1:i64.wrap (1+x)=1+x:=wrap_i64 aa aa
  have e2:i64.wrap (1+x+1)=1+x+1:=wrap_i64 aa aa
  rw[e1,e2]
  have v1:=Int.emod_nonneg d (show 1+x+1≠0 by omega)
  have v2:=Int.emod_lt_of_pos d (show 0<1+x+1 by omega)
  generalize d%(1+x+1)=y at*
  simp only[ag.all,aC]
  exact⟨⟨aa,aa,aa⟩,⟨aa,aa,aa,aa,aa,aa,aa⟩,aa,.refl _⟩
 ·simp at hs
structure Kd (α:Type) where
 read:AV->Option α
 make:α->AV
 ok:∀{v:AV} {a:α},read v=some a->bf v (make a)
def Ge:AV->Option (V3×Nat)
 |.agg [x,y,z]=>match oW x,oW y,oW z with
  |some (x,a),some (y,b),some (z,c)=>some (⟨x,y,z⟩,max a (max b c))
  |_,_,_=>none
 |_=>none
theorem ae3 {v:AV} {a:V3×Nat} (h:Ge v=some a):bf v (vA a.1 a.2):=by
 unfold Ge at h
 split at h
 ·split at h
  ·rename_i h1 h2 h3
   simp only[aB]at h
   subst h
   exact oe ⟨(wk h1).trans (dG rfl (by simp only;omega)),(wk h2).trans (dG rfl (by simp only;omega)),(wk h3).trans (dG rfl (by simp only;omega)),trivial⟩
  ·simp at h
 ·simp at h
def dR:Kd (Rat×Nat):=⟨oW,fun a=>rA a.1 a.2,wk⟩
def dV:Kd (V3×Nat):=⟨Ge,fun a=>vA a.1 a.2,ae3⟩
section specs
variable {α β γ δ:Type} {f:FuncId}
def HO (k:Kd α) (k2:Kd β) (g:α->β->AV) (B:α->β->Bool):Spec:=cD fun l=>match l with
 |[x,y]=>match k.read x,k2.read y with
  |some a,some b=>match B a b with
   |true=>some (aO (g a b) [])
   |false=>none
  |_,_=>none
 |_=>none
theorem NC {k:Kd α} {k2:Kd β} {g:α->β->AV} {B:α->β->Bool} (h:∀a b K,B a b=true->aW P f K [k.make a,k2.make b] [] (aO (g a b) [])):bp P (HO k k2 g B) f:=by
 refine cZ fun K args r hk hs _=>?_
 split at hs
 ·split at hs
  ·rename_i h1 h2
   split at hs
   ·rename_i hB
    simp only[aB]at hs
    subst hs
    exact iz (h _ _ K hB) hk ⟨k.ok h1,k2.ok h2,trivial⟩ []
   ·simp at hs
  ·simp at hs
 ·simp at hs
end specs
def b1 {α:Type} (e:Nat) (a:α×Nat):Bool:=Nat.blt a.2 (2^e)
def b2 {α β:Type} (e:Nat) (a:α×Nat) (b:β×Nat):Bool:=Nat.blt a.2 (2^e)&&Nat.blt b.2 (2^e)
def b3 {α β γ:Type} (e:Nat) (a:α×Nat) (b:β×Nat) (c:γ×Nat):Bool:=Nat.blt a.2 (2^e)&&(Nat.blt b.2 (2^e)&&Nat.blt c.2 (2^e))
theorem Xi {a b:Nat}:Nat.blt a b=true↔a<b:=by rw[Nat.blt_eq]
theorem CC {α β:Type} {e:Nat} {a:α×Nat} {b:β×Nat} (h:b2 e a b=true):a.2<2^e/\b.2<2^e:=by
 simp only[b2,Bool.and_eq_true,Xi]at h;exact h
end Go.Am.B
namespace Go.Am.B
open Go Go.Am.N AV Proofs.Tryz IntKind
theorem agP:bu 148 f148:=bC func148
theorem aej:bu 93 f93:=bC func93
theorem VX {q r:Rat} {n m:Nat}:cy T uM [9] 60 f148 (aK f148) ⟨aZ 0 [.rat q n,.rat r m],[],0⟩=
  some (ag.aj [(0:Nat)<1] (ag.fork ((↑(nl r.num.natAbs):Int)==0) (ag.aj [(0:Nat)<1] (ag.aj [(0:Nat)<1] (ag.leaf au.ret [agg [AV.bool false,mag 0,mag 0],int .i64 (3:Int)]))) (ag.aj [(0:Nat)<1,(0:Nat)<1,(0:Nat)<1,(0:Nat)<1,nl q.num.natAbs<2^39,nl r.den<2^39,(0:Nat)<1,(0:Nat)<1,nl q.den<2^39,nl r.num.natAbs<2^39,nl (q.num.natAbs*r.den)<2^38,nl (q.den*r.num.natAbs)<2^38,q.den*r.num.natAbs≠0,(0:Nat)<1] (ag.aj [(0:Nat)<1] (ag.leaf au.ret [rat (sQ (decide (q<0)!=decide (r<0)) (q.num.natAbs*r.den) (q.den*r.num.natAbs)) (eJ (sQ (decide (q<0)!=decide (r<0)) (q.num.natAbs*r.den) (q.den*r.num.natAbs))),int .i64 (0:Int)]))))):=ah
theorem Y7 {q r:Rat} {n m:Nat} (hn:n<2^41) (hm':m<2^41) (K:Nat):aW P 148 K [.rat q n,.rat r m] [] (aO (.tuple [.rat (q/r) (n+m),.int .i64 (if r=0 then 3 else 0)]) []):=by
 refine lJ fun⟨hq,hr,_⟩=>?_
 have hq:Sz q n:=hq
 have hr:Sz r m:=hr
 have d1:=q.den_nz
 have d2:=r.den_nz
 have a1:nl q.num.natAbs<2^38:=gW hq.1 aa
 have a2:nl q.den<2^38:=gW hq.2 aa
 have b1:nl r.num.natAbs<2^38:=gW hr.1 aa
 have b2:nl r.den<2^38:=gW hr.2 aa
 have m1:nl (q.num.natAbs*r.den)<2^38:=gW (qM hq.1 hr.2) aa
 have m3:nl (q.den*r.num.natAbs)<2^38:=gW (qM hq.2 hr.1) aa
 refine cB hT w7 hm agP rfl bh rfl 60 VX (fun _=>?_) K []
 have key:((nl r.num.natAbs:Int)==0)=decide (r=0):=by
  by_cases h:r=0
  ·subst h;rfl
  ·have h1:r.num.natAbs≠0:=fun e=>h (pR.1 e)
   have:=jc.2 h1
   simp only[h,decide_false,beq_eq_false_iff_ne];omega
 rw[key]
 simp only[ag.all,aC,bI,bR]
 refine⟨aa,fun h0=>?_,fun h0=>?_⟩
 ·refine⟨aa,aa,?_,cE (by rw[if_pos h0]),trivial⟩
  have e:q/r=0:=by rw[h0,Rat.div_def,Rat.inv_zero,Rat.mul_zero]
  obtain⟨k,hk⟩:∃k,n+m=k+1:=⟨n+m-1,by have:=hq.pos;omega⟩
  rw[e,hk]
  first|exact p8|exact mB aa
 ·have hr0:r.num.natAbs≠0:=fun h=>h0 (pR.1 h)
  have hv:=Gw q r h0
  (repeat' with_reducible refine And.intro ?_ ?_)
  all_goals first|omega|exact m1|exact m3|exact Nat.mul_ne_zero d1 hr0|skip
  exact⟨eM hv (hq.div hr),cE (by rw[if_neg h0]),trivial⟩
def Pr:bE:=[(148,jU kR kR Dh pW)]
theorem aeG:bY P Pr:=aM (jX fun _ _ K hn=>Y7 hn.1 hn.2 K) cJ
theorem UE {q r:Rat} {n m:Nat}:cy T Pr [] 60 f93 (aK f93) ⟨aZ 0 [.rat q n,.rat r m],[],0⟩=
  some (ag.aj [(0:Nat)<1,(0:Nat)<1,n<2^41,m<2^41,(0:Nat)<1] (ag.aj [(0:Nat)<1,(0:Nat)<1] (ag.aj [(0:Nat)<1] (ag.leaf au.ret [rat (q/r) (n+m)])))):=ah
theorem BN {q r:Rat} {n m:Nat} (hn:n<2^41) (hm':m<2^41) (K:Nat):aW P 93 K [.rat q n,.rat r m] [] (aO (.rat (q/r) (n+m)) []):=by
 refine cB hT aeG hm aej rfl bh rfl 60 UE (fun _=>?_) K []
 simp only[ag.all,aC]
 (repeat' with_reducible refine And.intro ?_ ?_)
 all_goals first|omega|exact bf.refl _
def yA (a b:Rat×Nat):AV:=rA (a.1/b.1) (a.2+b.2)
structure KG (p j:Nat) (k:Nat->Rat) (t:Rat):Prop where
 p1:1<=p
 first:∀i,i<=p->k i=k 0
 top:k (p+j)=t
 sorted:∀i,i<p+j->k i<=k (i+1)
 mult:∀i,1<=i->i<=j->k i<k (i+p)
 half:∀i,i<=p+j->∃z:Int,k i=(z:Rat)/2/\-4<=z/\z<=2+6*(j:Int)
def zT (k:Nat->Rat) (m:Nat) (t:Rat):Nat->Rat:=fun i=>if i=m then t else k i
theorem DQ {k:Nat->Rat} {m:Nat} {t:Rat}:zT k m t m=t:=if_pos rfl
theorem qJ {k:Nat->Rat} {m i:Nat} {t:Rat} (h:i≠m):zT k m t i=k i:=if_neg h
theorem KG.start {p:Nat} (hp:1<=p) {z:Int} (h1:-2<=z) (h2:z<=1):KG p 0 (fun _=>(z:Rat)) (z:Rat) where
 p1:=hp
 first:=fun _ _=>rfl
 top:=rfl
 sorted:=fun _ _=>Rat.le_refl
 mult:=fun i h1 h2=>by omega
 half:=fun i _=>⟨2*z,by
  have:((2*z:Int):Rat)=2*(z:Rat):=by simp
  rw[this];grind,by omega,by omega⟩
theorem KG.le_top {p j:Nat} {k:Nat->Rat} {t:Rat} (h:KG p j k t) {i:Nat} (hi:i<=p+j):k i<=t:=by
 rw[<-h.top]
 exact Ir (n:=p+j+1) (fun i hi=>h.sorted i (by omega)) hi (by omega)
theorem KG.next {p j:Nat} {k:Nat->Rat} {t t':Rat} (h:KG p j k t) (hc:(t<t'/\∃z:Int,t'=t+(z:Rat)/2/\z<=6)\/(t'=t/\1<=j/\t≠k (j+1))):KG p (j+1) (zT k (p+1+j) t') t':=by
 have hle:t<=t':=by
  rcases hc with⟨h1,_⟩|⟨h1,_⟩
  ·grind
  ·rw[h1];exact Rat.le_refl
 have hp:=h.p1
 refine⟨hp,fun i hi=>?_,?_,fun i hi=>?_,fun i h1 h2=>?_,fun i hi=>?_⟩
 ·rw[qJ (by omega),qJ (by omega)];exact h.first i hi
 ·rw[show p+(j+1)=p+1+j by omega,DQ]
 ·by_cases he:i+1=p+1+j
  ·rw[he,DQ,qJ (by omega),show i=p+j by omega,h.top];exact hle
  ·rw[qJ (by omega),qJ he];exact h.sorted i (by omega)
 ·by_cases he:i=j+1
  ·subst he
   rw[show j+1+p=p+1+j by omega,DQ,qJ (by omega)]
   have:=h.le_top (i:=j+1) (by omega)
   rcases hc with⟨h3,_⟩|⟨h3,h4,h5⟩
   ·grind
   ·rw[h3];grind
  ·rw[qJ (by omega),qJ (by omega)];exact h.mult i h1 (by omega)
 ·by_cases he:i=p+1+j
  ·subst he
   rw[DQ]
   obtain⟨z,e1,e2,e3⟩:=h.half (p+j) (by omega)
   rw[h.top]at e1
   rcases hc with⟨h3,y,e4,e5⟩|⟨h3,_⟩
   ·refine⟨z+y,?_,?_,by omega⟩
    ·rw[e4,e1]
     have:((z+y:Int):Rat)=(z:Rat)+(y:Rat):=by simp
     rw[this];grind
    ·have hy:0<y:=by
      rcases Int.lt_or_le 0 y with h6|h6
      ·exact h6
      ·exfalso
       have:((y:Int):Rat)<=0:=Rat.intCast_nonpos.2 h6
       grind
     omega
   ·exact⟨z,by rw[h3,e1],e2,by omega⟩
  ·rw[qJ he]
   obtain⟨z,e1,e2,e3⟩:=h.half i (by omega)
   exact⟨z,e1,e2,by omega⟩
def FD (p j:Nat) (k:Nat->Rat) (t:Rat):Nat->Rat:=fun i=>if i<p+1+j then k i else t+1
theorem KG.done {p j:Nat} {k:Nat->Rat} {t:Rat} (h:KG p j k t):Kn (2*p+2+j) p (FD p j k t):=by
 have hp:=h.p1
 have lo:∀{i},i<p+1+j->FD p j k t i=k i:=fun hi=>if_pos hi
 have hi':∀{i},p+1+j<=i->FD p j k t i=t+1:=fun hi=>if_neg (by omega)
 refine⟨hp,by omega,fun i hi=>?_,fun i hi=>?_,fun i h1 h2=>?_,fun i h1 h2=>?_⟩
 ·by_cases h1:i+1<p+1+j
  ·rw[lo h1,lo (by omega)];exact h.sorted i (by omega)
  ·rw[hi' (i:=i+1) (by omega)]
   by_cases h2:i<p+1+j
   ·rw[lo h2]
    have:=h.le_top (i:=i) (by omega)
    grind
   ·rw[hi' (by omega)];exact Rat.le_refl
 ·rw[lo (i:=i) (by omega),lo (i:=0) (by omega)];exact h.first i hi
 ·rw[hi' (i:=i) (by omega),hi' (i:=2*p+2+j-1) (by omega)]
 ·by_cases h3:i+p<p+1+j
  ·rw[lo (by omega),lo h3];exact h.mult i h1 (by omega)
  ·rw[hi' (i:=i+p) (by omega),lo (i:=i) (by omega)]
   have:=h.le_top (i:=i) (by omega)
   grind
def kL (s:Nat):Kind (Nat×(Nat->Rat)):=⟨fun v=>match tQ v with
 |some (n,f)=>some ((n,fun i=>aN (f i)),[cL f n s])
 |none=>none,fun a=>bG a.2 a.1 s,fun {v a q} h hq=>by
  split at h
  ·rename_i h1
   simp only[aB,Prod.mk.injEq]at h
   obtain⟨rfl,rfl⟩:=h
   exact adA h1 hq
  ·simp at h⟩
def fu (s:Nat):Kind Rat:=⟨fun v=>match oW v with
 |some (q,n)=>some (q,[n<=s])
 |none=>none,fun a=>.rat a s,fun {v a q} h hq=>by
  split at h
  ·rename_i h1
   simp only[aB,Prod.mk.injEq]at h
   obtain⟨rfl,rfl⟩:=h
   exact(wk h1).trans (mB hq)
  ·simp at h⟩
structure Bq (α:Type) where
 read:List AV->Option (α×List Prop)
 make:α->List AV
 ok:∀{l:List AV} {a:α} {q:List Prop},read l=some (a,q)->aC q->iR l (make a)
def kN:Bq Unit:=⟨fun l=>match l with
 |[]=>some ((),[])
 |_=>none,fun _=>[],fun {l a q} h _=>by
  split at h
  ·trivial
  ·simp at h⟩
def kC {α β:Type} (k:Kind α) (kl:Bq β):Bq (α×β):=⟨fun l=>match l with
 |v::l=>match k.read v,kl.read l with
  |some (a,p),some (b,q)=>some ((a,b),p++q)
  |_,_=>none
 |[]=>none,fun a=>k.make a.1::kl.make a.2,fun {l a q} h hq=>by
  split at h
  ·split at h
   ·rename_i h1 h2
    simp only[aB,Prod.mk.injEq]at h
    obtain⟨rfl,rfl⟩:=h
    obtain⟨q1,q2⟩:=ia.1 hq
    exact⟨k.ok h1 q1,kl.ok h2 q2⟩
   ·simp at h
  ·simp at h⟩
def ef {α:Type} (k:Bq α) (g:α->AV) (need:α->List Prop):Spec:=cD fun l=>match k.read l with
 |some (a,p)=>some (aO (g a) (p++need a))
 |none=>none
theorem dy {α:Type} {f:FuncId} {k:Bq α} {g:α->AV} {need:α->List Prop} (h:∀a K,aC (need a)->aW P f K (k.make a) [] (aO (g a) [])):bp P (ef k g need) f:=by
 refine cZ fun K args r hk hs _=>?_
 split at hs
 ·rename_i h1
  simp only[aB]at hs
  subst hs
  intro hn
  obtain⟨n1,hn⟩:=ia.1 hn
  exact iz (h _ K hn) hk (k.ok h1 n1) [] trivial
 ·simp at hs
end Go.Am.B
namespace Go.Am
def gr (p:Nat->Rat):Nat->Nat->Rat
 |0,i=>p i
 |k+1,i=>gr p k (i+1)-gr p k i
def fj (n:Nat) (p:Nat->Rat) (k:Nat):Rat:=((bn (n-1) k:Int):Rat)*gr p k 0
def lU (n:Nat) (c:Nat->Rat) (i:Nat):Nat->Rat
 |0=>0
 |k+1=>lU n c i k+((bn i k:Int):Rat)/((bn (n-1) k:Int):Rat)*c k
def gE (n:Nat) (c:Nat->Rat) (i:Nat):Rat:=lU n c i (i+1)
def lD (m:Nat) (p:Nat->Rat) (k j:Nat):Rat:=gr p (min k (m-j)) j
def jB (m:Nat) (p:Nat->Rat) (k i j:Nat):Rat:=if j<i then gr p (k+1) j else lD m p k j
theorem B6 {m k j:Nat} {p:Nat->Rat} (h:k+j<=m):lD m p k j=gr p k j:=by unfold lD;rw[show min k (m-j)=k by omega]
theorem NP {m k j:Nat} {p:Nat->Rat}:jB m p k (m-k) j=lD m p (k+1) j:=by
 unfold jB lD
 split
 ·rw[show min (k+1) (m-j)=k+1 by omega]
 ·rw[show min (k+1) (m-j)=min k (m-j) by omega]
theorem P4 {m k i j:Nat} {p:Nat->Rat} (h:i+k<m):(if j=i then jB m p k i (i+1)-jB m p k i i else jB m p k i j)=jB m p k (i+1) j:=by
 unfold jB
 by_cases h1:j=i
 ·subst h1
  rw[if_pos rfl,if_neg (by omega),if_neg (by omega),if_pos (by omega),B6 (by omega),B6 (by omega)];rfl
 ·rw[if_neg h1]
  by_cases h2:j<i
  ·rw[if_pos h2,if_pos (by omega)]
  ·rw[if_neg h2,if_neg (by omega)]
def bO (k:Nat->Rat):Nat->Nat
 |0=>0
 |n+1=>if k n=0 then bO k n else n+1
theorem fK {k:Nat->Rat}:∀{n:Nat},bO k n<=n
 |0=>Nat.le_refl _
 |n+1=>by unfold bO;split;exact Nat.le_succ_of_le fK;exact Nat.le_refl _
theorem E3 {k:Nat->Rat}:∀{n:Nat},0<bO k n->k (bO k n-1)≠0
 |0,h=>by simp[bO]at h
 |n+1,h=>by
  unfold bO at h ⊢
  split
  ·rename_i h1;rw[if_pos h1]at h;exact E3 h
  ·rename_i h1;simpa using h1
theorem EH {k:Nat->Rat}:∀{n i:Nat},bO k n<=i->i<n->k i=0
 |0,_,_,h=>absurd h (Nat.not_lt_zero _)
 |n+1,i,h,hi=>by
  unfold bO at h
  split at h
  ·rename_i h1
   rcases Nat.lt_or_ge i n with h2|h2
   ·exact EH h h2
   ·rw[show i=n by omega];exact h1
  ·omega
theorem qj {k:Nat->Rat} {n:Nat} (h:n=0\/k (n-1)≠0):bO k n=n:=by
 cases n with
 |zero=>rfl
 |succ n=>unfold bO;rw[if_neg (by simpa using h)]
theorem DR {k l:Nat->Rat}:∀{n:Nat},(∀i,i<n->k i=l i)->bO k n=bO l n
 |0,_=>rfl
 |n+1,h=>by unfold bO;rw[h n (by omega),DR fun i hi=>h i (by omega)]
theorem FY {k:Nat->Rat} {n:Nat}:∀{m:Nat},(∀i,n<=i->i<n+m->k i=0)->bO k (n+m)=bO k n
 |0,_=>rfl
 |m+1,h=>by
  show bO k (n+m+1)=_
  unfold bO
  rw[if_pos (h (n+m) (by omega) (by omega)),FY fun i h1 h2=>h i h1 (by omega)]
  cases n<;>rfl
end Go.Am
