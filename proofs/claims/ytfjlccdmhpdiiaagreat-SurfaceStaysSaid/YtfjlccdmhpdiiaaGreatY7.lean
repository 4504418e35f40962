/- ref01: Div, Gcd: what their pieces come to. -/
import Derived.Test.YtfjlccdmhpdiiaaGreatY6
import Derived.Test.YtfjlccdmhpdiiaaGreatZ2
import Init
set_option linter.unusedVariables false
variable {a y:Int}{t:Rat}{A B N d i:Nat}{z:Nat->Int}{l:List Rat}
noncomputable section
namespace Go.Am.B
open Go Go.Am.N AV Proofs.Tryz IntKind
theorem Tf:aU 187 f187:=aS func187
def mB:aX:=[(126,yP),(185,vf),(227,Es),(190,xM),(189,Fy),(228,Fv),(229,IY),(231,Pt),(230,Jl),(188,nQ (fun A B=>.mag (A-B)) fun A B=>[B<=A,nl A<2^40]),(232,Nt)]
abbrev p9:List Nat:=[1,1,1,1,1,1,1,1,1,0,1]
abbrev qi:Code:=part (aE f187) [1,1,1,1,1,1,1,1,1,0,1,0,0]
abbrev ov:Code:=part qi [1,0,0]
abbrev fS:List Nat:=[1,13,5,14,4,15]
abbrev jm (V s R lq:Nat) (j:Int) (K:Nat):List AV:=[.mag V,.int .i64 s,.mag R,.int .i64 (nl V),.own K 1 0 lq,.int .i64 j]
theorem nc:bn P mB:=aH CC (aH wK (aH Pr (aH CU (aH Ru (aH Pu (aH ae7 (aH akg (aH Xw (aH (qR fun h=>Mz h.1 h.2) (aH ZD bw))))))))))
theorem aap:aI T mB [21,25,33,49] 60 [0,1,4,5,6] ((before (aE f187) p9).take 5) ⟨aN 0 [.mag A,.mag B],[],0⟩=
  let i:=(2:Int)^64;let f:=2^40;let e:=[int .i64 (0:Int)];let d:=(↑(aD B (Int.toNat (0:Int))):Int);let b:=(↑(if gH A=true then A else 0):Int);let a:=(↑(if gH B=true then B else 0):Int);let h:=u64.wrap (b.tdiv a);let g:=u64.wrap (↑(A%d.toNat):Int);some (ag.fork ((↑(nl B):Int)==0) (ag.leaf au.ret ([mag A,mag B,nil,nil,int .i64 (3:Int)],[])) (ag.aj [nl A<f,nl B<f] (ag.fork (decide (dw A B<0)) (ag.aj [nl A<f] (ag.leaf au.ret (mag A::mag B::nil::mag A::e,[]))) (ag.fork (gH A) (ag.aj [a≠(0:Int),(0:Int)<=h/\h<i,a≠(0:Int),(0:Int)<=b.tmod a/\b.tmod a<i] (ag.leaf au.ret (mag A::mag B::mag h.toNat::mag (b.tmod a).toNat::e,[]))) (ag.fork ((↑(nl B):Int)==1) (ag.aj [(0:Int)<=0/\Int.toNat (0:Int)<nl B,nl A<f,(0:Int)<d,d<2^32] (ag.aj [(0:Int)<=g/\g<i] (ag.leaf au.ret (mag A::mag B::mag (A/d.toNat)::mag g.toNat::e,[])))) (ag.leaf au.normal (mag A::mag B::nil::nil::e,[]))))))):=ah
theorem UU:aI T mB [] 60 [0,1,13] (((before (aE f187) p9).drop 5).take 1) ⟨aA [0,1] [.mag A,.mag B],[],0⟩=
  let a:=(↑(nl B):Int);let b:=i64.wrap (a-1);let d:=a.toNat-b.toNat;let e:=val d fun i=>numOf (int .u32 (↑(aD B (i+b.toNat)):Int));some (ag.aj [(0:Int)<=b/\b<=a/\a<=a/\a<=a,eU d fun i=>int .u32 (↑(aD B (i+b.toNat)):Int),d<2^40,nl e=d] (ag.leaf au.normal ([mag A,mag B,int .i64 (i64.wrap ((32:Int)-(↑(bT e):Int)))],[]))):=ah
theorem aan {s:Nat}:aI T mB [] 60 fS ((before (aE f187) p9).drop (5+1)) ⟨aA [0,1,13] [.mag A,.mag B,.int .i64 s],[],0⟩=
  let d:=(↑s:Int);let f:=d<2^43;let b:=2^d.toNat;let e:=i64.wrap ((↑(nl (A*b)):Int)-(↑(nl (B*b)):Int));let a:=i64.wrap (e+1);some (ag.aj [nl B<2^39,(0:Int)<=d,f,nl A<2^39,(0:Int)<=d,f] (ag.aj [(0:Int)<=a/\a<=a/\a<=2^47/\a*(↑(4:Nat):Int)<=2^47] (ag.leaf au.normal ([mag (B*b),int .i64 d,mag (A*b),int .i64 (↑(nl (B*b)):Int),own 65536 1 0 a.toNat,int .i64 e],[(65536,aq.mk true true 1 a.toNat fun x=>int .u32 (0:Int))])))):=ah
theorem S7 {V s R lq m:Nat} {q:Nat->Nat}:aI T mB [88] 60 fS [part qi [0]] ⟨aA fS (jm V s R lq ((m:Int)-1) 7),dK 7 lq q,8⟩=
  let d:=(↑m:Int)-1;let b:List AV×aC:=([mag V,int .i64 (↑s:Int),mag R,int .i64 (↑(nl V):Int),own 7 1 0 lq,int .i64 d],[(7,aq.mk true true 1 lq fun a=>int .u32 (↑(q a):Int))]);some (ag.fork (decide (d>=0)) (ag.leaf au.normal b) (ag.leaf (au.exit 0) b)):=ah
theorem agk {V s R lq j:Nat} {q:Nat->Nat}:aI T mB [96,110] 60 (fS++[16]) ((before ov [1,1,1,1,1,0]).take 3) ⟨aA fS (jm V s R lq (j:Nat) 7),dK 7 lq q,8⟩=
  let e:=(2:Int)^min (Int.toNat (32:Int)) u64.bits;let b:=(0:Int)<=32;let o:=(↑(nl R):Int);let n:=int .i64 (↑s:Int);let m:=int .i64 (↑j:Int);let l:=int .i64 (↑(nl V):Int);let k:=own 7 1 0 lq;let i:Nat×aq:=(7,aq.mk true true 1 lq fun a=>int .u32 (↑(q a):Int));let h:=i64.wrap ((↑j:Int)+(↑(nl V):Int));let p:=u64.wrap (u64.wrap (↑(aD R h.toNat):Int)*e);let d:=i64.wrap (h-1);let g:=[b,(0:Int)<=d/\d.toNat<nl R];let f:BitVec u64.bits:=BitVec.ofInt u64.bits (u64.wrap (↑(aD R d.toNat):Int));some (ag.fork (decide (h<o)) (ag.aj [(0:Int)<=h/\h.toNat<nl R] (ag.fork (decide (d<o)) (ag.aj g (ag.leaf au.normal ([mag V,n,mag R,l,k,m,int .u64 (u64.wrap (↑(BitVec.ofInt u64.bits p|||f).toNat:Int))],[i]))) (ag.aj [b] (ag.leaf au.normal ([mag V,n,mag R,l,k,m,int .u64 p],[i]))))) (ag.fork (decide (d<o)) (ag.aj g (ag.leaf au.normal ([mag V,n,mag R,l,k,m,int .u64 (u64.wrap (↑(BitVec.ofInt u64.bits (u64.wrap ((0:Int)*e))|||f).toNat:Int))],[i]))) (ag.aj [b] (ag.leaf au.normal ([mag V,n,mag R,l,k,m,int .u64 (0:Int)],[i]))))):=ah
theorem adI {V s R lq j t:Nat} {q:Nat->Nat}:aI T mB [] 60 (fS++[17]) (((before ov [1,1,1,1,1,0]).drop 3).take 1) ⟨aA (fS++[16]) (jm V s R lq (j:Nat) 7++[.int .u64 t]),dK 7 lq q,8⟩=
  let b:=i64.wrap ((↑(nl V):Int)-1);let d:=u64.wrap (↑(aD V b.toNat):Int);let e:=u64.wrap ((↑t:Int).tdiv d);some (ag.aj [(0:Int)<=b/\b.toNat<nl V,d≠(0:Int)] (ag.leaf au.normal ([mag V,int .i64 (↑s:Int),mag R,int .i64 (↑(nl V):Int),own 7 1 0 lq,int .i64 (↑j:Int),int .u64 (if(4294967295:Int)<e then(4294967295:Int)else e)],[(7,aq.mk true true 1 lq fun a=>int .u32 (↑(q a):Int))]))):=ah
theorem age {V s R lq j:Nat} {q:Nat->Nat}:aI T mB [] 60 (fS++[17,18]) ((before ov [1,1,1,1,1,0]).drop (3+1)) ⟨aA (fS++[17]) (jm V s R lq (j:Nat) 7++[.int .u64 d]),dK 7 lq q,8⟩=
  let e:=(↑j:Int);let b:=u32.wrap (↑d:Int);some (ag.aj [nl V<2^39,(0:Int)<=b,b<2^32,nl (V*b.toNat)<2^40,(0:Int)<=e,e<2^40] (ag.leaf au.normal ([mag V,int .i64 (↑s:Int),mag R,int .i64 (↑(nl V):Int),own 7 1 0 lq,int .i64 e,int .u64 (↑d:Int),mag (V*b.toNat*2^((32:Nat)*e.toNat))],[(7,aq.mk true true 1 lq fun a=>int .u32 (↑(q a):Int))]))):=ah
theorem Xj {V s R lq j X:Nat} {q:Nat->Nat}:aI T mB [142] 60 (fS++[17,18]) [part ov [1,1,1,1,1,0,0,0]] ⟨aA (fS++[17,18]) (jm V s R lq (j:Nat) 7++[.int .u64 d,.mag X]),dK 7 lq q,8⟩=
  let k:=int .i64 (↑s:Int);let b:=(↑j:Int);let i:=int .i64 (↑(nl V):Int);let h:=own 7 1 0 lq;let e:=2^40;let f:Nat×aq:=(7,aq.mk true true 1 lq fun a=>int .u32 (↑(q a):Int));let g:=V*2^((32:Nat)*b.toNat);some (ag.aj [nl X<e,nl R<e] (ag.fork (decide (dw X R>0)) (ag.aj [nl V<e,(0:Int)<=b,b<2^40,g<=X,nl X<e] (ag.leaf au.normal ([mag V,k,mag R,i,h,int .i64 b,int .u64 (u64.wrap ((↑d:Int)-1)),mag (X-g)],[f]))) (ag.leaf (au.exit 2) ([mag V,k,mag R,i,h,int .i64 b,int .u64 (↑d:Int),mag X],[f])))):=ah
theorem aa6 {V s R lq j X:Nat} {q:Nat->Nat}:aI T mB [] 60 fS (behind ov [1,1,1,1,1,0]) ⟨aA (fS++[17,18]) (jm V s R lq (j:Nat) 7++[.int .u64 d,.mag X]),dK 7 lq q,8⟩=
  let a:=(↑j:Int);let b:=a.toNat+0;some (ag.aj [(0:Int)<=a/\a.toNat<lq,b<lq] (ag.aj [X<=R,nl R<2^40] (ag.leaf au.normal ([mag V,int .i64 (↑s:Int),mag (R-X),int .i64 (↑(nl V):Int),own 7 1 0 lq,int .i64 a],[(7,aq.mk true true 1 lq fun j=>if(j==b)=true then int .u32 (u32.wrap (↑d:Int))else aB q j)])))):=ah
theorem Uu {V s R lq j:Nat} {q:Nat->Nat}:aI T mB [] 60 fS [part qi [1,1]] ⟨aA fS (jm V s R lq (j:Nat) 7),dK 7 lq q,8⟩=
  some (ag.leaf au.normal ([mag V,int .i64 (↑s:Int),mag R,int .i64 (↑(nl V):Int),own 7 1 0 lq,int .i64 (i64.wrap ((↑j:Int)-1))],[(7,aq.mk true true 1 lq fun a=>int .u32 (↑(q a):Int))])):=ah
theorem WM {V s R lq:Nat} {q:Nat->Nat} {j:Int}:ct T mB [] 60 f187 (behind (aE f187) p9) ⟨aA fS (jm V s R lq j 7),dK 7 lq q,8⟩=
  some (ag.aj [eU lq fun i=>aB q (i+0),lq<2^40,nl R<2^40,(0:Int)<=(↑s:Int),(↑s:Int)<2^62] (ag.leaf au.ret [mag (val lq fun i=>numOf (aB q (i+0))),mag (R/2^(↑s:Int).toNat),int .i64 (0:Int)])):=ah
theorem alH {R:Nat} (h:R<2^(32*(i+2))):aD R (i+1)*4294967296+aD R i=R/2^(32*i):=by
 unfold aD;have e:R/2^(32*(i+1))=R/2^(32*i)/4294967296:=by rw[Nat.div_div_eq_div_mul,show(4294967296:Nat)=2^32 from rfl,<-Nat.pow_add];congr 2
 rw[e];have h2:R/2^(32*i)<4294967296*4294967296:=by
  rw[Nat.div_lt_iff_lt_mul (Nat.two_pow_pos _),show(4294967296*4294967296:Nat)=2^64 from rfl,<-Nat.pow_add];rw[show 64+32*i=32*(i+2) by omega];exact h
 generalize R/2^(32*i)=X at*;omega
theorem ad4 {a b:Nat}:dw a b>0↔b<a:=by
 unfold dw;split
 ·simp;omega
 ·split<;>simp_all
theorem akt {x:Nat} (h:4294967295<x):(4294967295:Int)<(x:Int):=aa
theorem Wy {x:Nat} (h:¬4294967295<x):¬(4294967295:Int)<(x:Int):=aa
section pieces
variable {c:Ctx} (h0:∀nx k x,c.k0 k=some x->k<nx) {Q:au->aK->Prop} {V s R lq j:Nat} {q:Nat->Nat} {s':aK}
include h0 in
theorem abA (hn:2<=nl V) (hnV:nl V<2^40) (hj:j<2^40) (hR:R<2^(32*(j+nl V+1)))
  (hv:bD fS s'=some (jm V s R lq j 7,dK 7 lq q))
  (fin:∀s',bD (fS++[16]) s'=some (jm V s R lq j 7++[.int .u64 (R/2^(32*(j+nl V-1)):Nat)],dK 7 lq q)->Q .normal s'):
  aG P c f187.ntmps ((before ov [1,1,1,1,1,0]).take 3) s' Q:=by
 refine aG.fW hT nc hm 60 hv (h0 _) rfl (iH aa) (fS++[16]) agk ah ah ?_;have w1:i64.wrap ((j:Int)+(nl V:Int))=((j+nl V:Nat):Int):=fz aa aa;have w2:i64.wrap (((j+nl V:Nat):Int)-1)=((j+nl V-1:Nat):Int):=fz aa aa;have l1:=ec (N:=R) (i:=j+nl V);have l2:=ec (N:=R) (i:=j+nl V-1);have ht:=alH (R:=R) (i:=j+nl V-1) (by rw[show j+nl V-1+2=j+nl V+1 by omega];exact hR);rw[show j+nl V-1+1=j+nl V by omega]at ht;have wl:u64.wrap (aD R (j+nl V):Int)=((aD R (j+nl V):Nat):Int):=cC aa aa;rw[w1,w2];simp only[ag.all,ay,br,bC,bg];rw[wl,v8 l1 l2];have hz:=v8 (a:=0) (b:=aD R (j+nl V-1)) aa l2;have ez:((0:Nat):Int)=0:=rfl;rw[ez]at hz;rw[hz];refine⟨fun h1=>⟨aa,fun h2=>⟨⟨aa,aa⟩,fun s' hv=>fin s' (er hv ?_ rfl)⟩,fun h2=>aa⟩,fun h1=>⟨fun h2=>⟨⟨aa,aa⟩,fun s' hv=>fin s' (er hv ?_ rfl)⟩,fun h2=>⟨aa,fun s' hv=>fin s' (er hv ?_ rfl)⟩⟩⟩
 ·rw[ht];rfl
 ·rw[j9 (A:=R) (i:=j+nl V) aa]at ht;rw[ht];rfl
 ·rw[j9 (A:=R) (i:=j+nl V) aa,j9 (A:=R) (i:=j+nl V-1) aa]at ht;rw[<-ht];rfl
include h0 in
theorem Up (hn:2<=nl V) (hnV:nl V<2^39) (hj:j<2^39) (hjq:j<lq) (hlq:lq<2^40) (hR:R<V*2^(32*(j+1))) (hv1:0<aD V (nl V-1))
  (hv:bD fS s'=some (jm V s R lq j 7,dK 7 lq q))
  (fin:∀s',R/(V*2^(32*j))<4294967296->bD fS s'=some (jm V s (R%(V*2^(32*j))) lq j 7,dK 7 lq (cR q j (R/(V*2^(32*j)))))->Q .normal s'):
  ax P c f187.ntmps ov s' Q:=by
 have hV0:0<V:=Nat.pos_of_ne_zero (g8.1 aa);have hTp:0<2^(32*j):=Nat.two_pow_pos _;have hVT:0<V*2^(32*j):=Nat.mul_pos hV0 hTp;have hVl:V<2^(32*nl V):=nR;have hR2:R<2^(32*(j+nl V+1)):=by
  refine Nat.lt_trans hR ?_;rw[show 32*(j+nl V+1)=32*nl V+32*(j+1) by omega,Nat.pow_add];exact(Nat.mul_lt_mul_right (Nat.two_pow_pos _)).2 hVl
 have hnR:nl R<=j+nl V+1:=dL.2 hR2;obtain⟨qt,hqt⟩:∃qt,qt=R/(V*2^(32*j)):=⟨_,rfl⟩
 have hq32:qt<4294967296:=by
  rw[hqt,Nat.div_lt_iff_lt_mul hVT];have e:V*2^(32*(j+1))=4294967296*(V*2^(32*j)):=by rw[iV,<-Nat.mul_assoc,Nat.mul_comm V,Nat.mul_assoc]
  omega
 have hqle:qt*(V*2^(32*j))<=R:=by rw[hqt];exact Nat.div_mul_le_self _ _
 have hqlt:∀d,R<d*(V*2^(32*j))->qt<d:=fun d h=>by rw[hqt,Nat.div_lt_iff_lt_mul hVT];exact h
 have zR:aD V (nl V-1)*2^(32*(nl V-1))<=V:=by
  have:=gL (N:=V);obtain⟨k,hk⟩:∃k,nl V=k+1:=⟨nl V-1,aa⟩
  rw[hk,val]at this;rw[hk,Nat.add_sub_cancel];omega
 have hqtop:qt<=R/2^(32*(j+nl V-1))/aD V (nl V-1):=by
  rw[Nat.le_div_iff_mul_le hv1,Nat.le_div_iff_mul_le (Nat.two_pow_pos _)];refine Nat.le_trans ?_ hqle;rw[show 32*(j+nl V-1)=32*(nl V-1)+32*j by omega,Nat.pow_add,Nat.mul_assoc,<-Nat.mul_assoc (aD V (nl V-1))];exact Nat.mul_le_mul_left _ (Nat.mul_le_mul_right _ zR)
 refine ax.hole [1,1,1,1,1,0] ah (aG.chunk 3 (abA h0 hn aa aa hR2 hv fun s' hv=>cV ?_));have lv1:=ec (N:=V) (i:=nl V-1);have w1:i64.wrap ((nl V:Int)-1)=((nl V-1:Nat):Int):=fz aa aa;have htop64:R/2^(32*(j+nl V-1))<2^64:=by
  rw[Nat.div_lt_iff_lt_mul (Nat.two_pow_pos _),<-Nat.pow_add,show 64+32*(j+nl V-1)=32*(j+nl V+1) by omega];exact hR2
 refine aG.chunk 1 (aG.fW hT nc hm 60 hv (h0 _) rfl (iH aa) (fS++[17]) adI ah ah ?_);have wl:u64.wrap (aD V (nl V-1):Int)=((aD V (nl V-1):Nat):Int):=cC aa aa;rw[w1];simp only[ag.all,ay,bg];rw[wl];obtain⟨t,ht⟩:∃t,t=R/2^(32*(j+nl V-1)):=⟨_,rfl⟩
 rw[<-ht]at hqtop htop64 ⊢;have htd:t/aD V (nl V-1)<=t:=Nat.div_le_self _ _;have w2:u64.wrap ((t:Int).tdiv ((aD V (nl V-1):Nat):Int))=((t/aD V (nl V-1):Nat):Int):=by
  rw[<-Int.ofNat_tdiv,wX,Nat.mod_eq_of_lt aa]
 rw[w2];obtain⟨d0,hd0⟩:∃d0:Nat,d0=if 4294967295<t/aD V (nl V-1)then 4294967295 else t/aD V (nl V-1):=⟨_,rfl⟩
 have w3:(if(4294967295:Int)<((t/aD V (nl V-1):Nat):Int)then(4294967295:Int)else((t/aD V (nl V-1):Nat):Int))=(d0:Int):=by
  rw[hd0];by_cases h:4294967295<t/aD V (nl V-1)
  ·rw[if_pos h,if_pos (akt h)];rfl
  ·rw[if_neg h,if_neg (Wy h)]
 have hd32:d0<4294967296:=by rw[hd0];split<;>omega
 have hqd:qt<=d0:=by rw[hd0];split<;>omega
 rw[w3];refine⟨⟨aa,aa⟩,fun s' hv=>cV ?_⟩;rw[List.drop_drop];refine aG.fW hT nc hm 60 hv (h0 _) rfl (iH aa) (fS++[17,18]) age ah ah ?_;have w4:u32.wrap (d0:Int)=(d0:Int):=wrap_u32 aa aa;rw[w4];simp only[ag.all,ay,bg];have nlmul:∀{d:Nat},d<4294967296->nl (V*d*2^(32*j))<=nl V+1+j/\nl (V*d)<=nl V+1:=fun {d} hd=>by
  have h1:V*d<2^(32*(nl V+1)):=by
   rw[iV,Nat.mul_comm];exact Nat.mul_lt_mul'' hd hVl
  refine⟨dL.2 ?_,dL.2 h1⟩;rw[Nat.mul_add,Nat.pow_add];exact(Nat.mul_lt_mul_right hTp).2 h1
 have hnd:=nlmul hd32;refine⟨⟨hnV,aa,aa,aa,aa,aa⟩,fun s' hv=>cV ?_⟩;refine ax.iN (i:=2) (y:=part ov [1,1,1,1,1,0,0,0]) ah (fS++[17,18]) 8 (h0 _) (fun d:Nat=>jm V s R lq j 7++[.int .u64 (d:Nat),.mag (V*d*2^(32*j))]) (fun _=>dK 7 lq q) (fun _=>rfl) (fun _=>iH aa)
  (fun d=>qt<=d/\d<4294967296) id d0 hv ⟨hqd,hd32⟩ ?_
 rintro d ⟨hqd,hd⟩;have hnd:=nlmul hd;have eX:V*d*2^(32*j)=d*(V*2^(32*j)):=by rw[Nat.mul_comm V d,Nat.mul_assoc]
 refine ax.bE hT nc hm 60 (fS++[17,18]) Xj ah ?_;simp only[ag.all,ay,br,bC,bg,ad4];refine⟨⟨aa,aa⟩,fun hb=>?_,fun hb s' hv=>gk ?_⟩
 ·rw[eX]at hb;have hqd1:=hqlt d hb;have hd1:0<d:=aa;have e1:V*d*2^(32*j)-V*2^(32*j)=V*(d-1)*2^(32*j):=by
   rw[Nat.mul_sub,Nat.mul_one,Nat.sub_mul]
  have e2:V*2^(32*j)<=V*d*2^(32*j):=Nat.mul_le_mul_right _ (by have:=Nat.mul_le_mul_left V hd1;omega);refine⟨⟨aa,aa,aa,e2,aa⟩,fun s' hv=>⟨d-1,er hv ?_ rfl,⟨aa,aa⟩,by simp;omega⟩⟩;rw[e1,cC aa aa,show(d:Int)-1=((d-1:Nat):Int) by omega];rfl
 ·have hXR:d*(V*2^(32*j))<=R:=by rw[eX]at hb;omega
  have hdq:d=qt:=by
   have:d<=qt:=by rw[hqt,Nat.le_div_iff_mul_le hVT];exact hXR
   omega
  show aG P c f187.ntmps (behind ov [1,1,1,1,1,0]) s' _;refine aG.fW hT nc hm 60 hv (h0 _) rfl (iH aa) fS aa6 ah ah ?_;simp only[ag.all,ay,bg,Nat.add_zero,beq_iff_eq];refine⟨⟨aa,aa⟩,⟨by rw[eX];exact hXR,aa⟩,fun s' hv=>fin s' aa (er hv ?_ ?_)⟩
  ·have:R-V*d*2^(32*j)=R%(V*2^(32*j)):=by
    rw[eX,hdq,hqt,Nat.mul_comm];have:=Nat.div_add_mod R (V*2^(32*j));omega
   rw[this]
  ·simp only[dK];congr 3;funext k;rw[<-hqt,<-hdq];exact iI (wrap_u32 aa aa) k
end pieces
end Go.Am.B
namespace Go.Am.B
open Go Go.Am.N AV Proofs.Tryz IntKind
theorem afd {c:Ctx} (h0:∀nx k x,c.k0 k=some x->k<nx) {V s lq R0:Nat} (hs:s<32) (hB0:B≠0) (hV:V=B*2^s) (hR0:R0=A*2^s) (hn:2<=nl V) (hnV:nl V<2^39) (hlq:lq<2^39) (hv1:0<aD V (nl V-1)) (hnR:nl R0<2^40) (hlt:R0<V*2^(32*lq))
  {s':aK} (hv:bD fS s'=some (jm V s R0 lq ((lq:Int)-1) 7,dK 7 lq fun _=>0)):
  ax P c f187.ntmps (part (aE f187) p9) s' (eH (fun s'=>aG P c f187.ntmps (behind (aE f187) p9) s' (ej c (Fin T f187 (oG A B)))) (ej c (Fin T f187 (oG A B)))):=by
 have hV0:0<V:=Nat.pos_of_ne_zero (g8.1 aa);refine ax.iN (i:=0) (y:=qi) ah fS 8 (h0 _) (fun p:Nat×Nat×(Nat->Nat)=>jm V s p.2.1 lq ((p.1:Int)-1) 7) (fun p=>dK 7 lq p.2.2) (fun _=>rfl) (fun _=>iH aa)
  (fun p=>p.1<=lq/\(∀i,i<lq->p.2.2 i<2^32)/\(∀i,i<p.1->p.2.2 i=0)/\val lq p.2.2*V+p.2.1=R0/\p.2.1<V*2^(32*p.1)) (fun p=>p.1) (lq,R0,fun _=>0) hv
  ⟨by simp,fun _ _=>by simp,fun _ _=>rfl,?_,hlt⟩ ?_
 ·simp only;rw[val_zero fun _ _=>rfl];simp
 rintro⟨m,R,q⟩ ⟨hm',hq,hq0,hval,hR⟩;simp only at hm' hq hq0 hval hR;refine ax.hole [0] ah (show ax P c f187.ntmps (part qi [0]) _ _ from ax.bE hT nc hm 60 fS S7 ah ?_);simp only[ag.all,br,bC];refine⟨fun hb s' hv=>cV ?_,fun hb s' hv=>tc (gk ?_)⟩
 ·obtain⟨j,rfl⟩:∃j,m=j+1:=⟨m-1,aa⟩
  have hv:bD fS s'=some (jm V s R lq (j:Nat) 7,dK 7 lq q):=er hv (by simp only[jm,List.cons.injEq,AV.int.injEq,and_true,true_and];omega) rfl;show aG P c f187.ntmps [part qi [1]] s' _;refine ax.hole [0] ah ?_;show ax P c f187.ntmps (part qi [1,0]) s' _;refine ax.qH (i:=1) (y:=ov) ah ?_;refine Up h0 hn hnV aa aa aa hR hv1 hv fun s' hqt hv=>?_;show aG P c f187.ntmps [part qi [1,1]] s' _;refine aG.fW hT nc hm 60 hv (h0 8) rfl (iH aa) fS Uu ah ah fun s' hv=>cV ?_;refine⟨(j,R%(V*2^(32*j)),cR q j (R/(V*2^(32*j)))),er hv ?_ rfl,⟨by simp only;omega,jl hqt hq,fun i hi=>(gz (by simp only at hi;omega)).trans (hq0 i (by simp only at hi;omega)),?_,Nat.mod_lt _ (Nat.mul_pos hV0 (Nat.two_pow_pos _))⟩,by simp only;omega⟩
  ·rw[wrap_i64 aa aa]
  ·simp only;rw[r6 aa (hq0 j aa),Nat.add_mul];have h1:=Nat.div_add_mod R (V*2^(32*j));generalize R/(V*2^(32*j))=qt at*;generalize R%(V*2^(32*j))=r at*;rw[show qt*2^(32*j)*V=V*2^(32*j)*qt by rw[Nat.mul_comm (V*_),Nat.mul_assoc,Nat.mul_comm (2^_)]];omega
 ·have hm0:m=0:=aa;have hRV:R<V:=by rw[hm0]at hR;simpa using hR
  show aG P c f187.ntmps (behind (aE f187) p9) s' _;refine aG.lE hT nc hm 60 hv (h0 _) rfl (iH aa) WM ah ah ?_;have hS:0<2^s:=Nat.two_pow_pos _;have hnR2:nl R<=nl R0:=iF aa;obtain⟨e1,e2⟩:=Pv hval hRV;simp only[ag.all,ay,bg,Nat.add_zero,kJ];refine⟨⟨hU hq,aa,aa,aa,aa⟩,dY (congrArg AV.mag ?_),dY (congrArg AV.mag ?_),bP (by rw[if_neg hB0]),trivial⟩
  ·rw[<-e1,hR0,hV,Nat.mul_div_mul_right _ _ hS]
  ·rw[if_neg hB0,<-e2,hR0,hV,Nat.mul_mod_mul_right,Nat.mul_div_cancel _ hS]
theorem Tw (hA:nl A<2^38) (hB:nl B<2^38) (K:Nat):aQ P 187 K [.mag A,.mag B] [] (aJ (oG A B) []):=by
 refine fV hT Tf rfl aV rfl (fun _ c h0=>?_) K [];have hk0:=BG h0;refine ax.hole p9 ah (aG.chunk 5 (aG.bE hT nc hm 60 [0,1,4,5,6] aap ah ?_));simp only[ag.all,ay,beq_iff_eq,beq_eq_false_iff_ne,ne_eq,br,bC,AK];have hnl0:nl B=0↔B=0:=jX;refine⟨fun hb s' hv=>gd (gd (.inl ?_)),fun hb=>⟨⟨aa,aa⟩,fun hlt=>⟨aa,fun s' hv=>gd (gd (.inl ?_))⟩,fun hge=>⟨fun hf=>?_,fun hf=>⟨fun h1=>?_,fun h1 s' hv=>cV ?_⟩⟩⟩⟩
 ·have hB0:B=0:=hnl0.1 aa;exact iw (us:=[.nil,.nil,.int .i64 3]) (.inr rfl) hv ah ⟨by rw[hB0];simpa using lT,by rw[if_pos hB0];exact lT,bP (by simp[hB0]),trivial⟩
 ·have hB0:B≠0:=fun h=>hb (by rw[hnl0.2 h];rfl);refine iw (us:=[.nil,.mag A,.int .i64 0]) (.inr rfl) hv ah ⟨?_,dY ?_,bP (by simp[hB0]),trivial⟩
  ·rw[Nat.div_eq_of_lt hlt];exact lT
  ·rw[if_neg hB0,Nat.mod_eq_of_lt hlt]
 ·have hB0:B≠0:=fun h=>hb (by rw[hnl0.2 h];rfl);have hA64:A<2^64:=by unfold gH at hf;simpa using hf
  have yp:gH B=true:=by unfold gH;simp;omega
  rw[if_pos hf,if_pos yp];have hdl:=Nat.div_le_self A B;have hml:A%B<=A:=Nat.mod_le _ _;have e1:u64.wrap ((A:Int).tdiv (B:Int))=((A/B:Nat):Int):=by rw[<-Int.ofNat_tdiv,wX,Nat.mod_eq_of_lt aa]
  have e2:(A:Int).tmod (B:Int)=((A%B:Nat):Int):=(Int.ofNat_tmod _ _).symm;rw[e1,e2];have cn:∀{x:Nat},x<2^64->(0:Int)<=(x:Int)/\(x:Int)<2^64:=fun {x} h=>aa;refine⟨⟨aa,cn (Nat.lt_of_le_of_lt hdl hA64),aa,cn (Nat.lt_of_le_of_lt hml hA64)⟩,fun s' hv=>gd (gd (.inl ?_))⟩;refine iw (us:=[.mag (A/B),.mag (A%B),.int .i64 0]) (.inr rfl) hv ah ⟨.refl _,dY (by rw[if_neg hB0]),bP (by simp[hB0]),trivial⟩
 ·have hB0:B≠0:=fun h=>hb (by rw[hnl0.2 h];rfl);have hl0:aD B 0=B:=by
   have:=gL (N:=B);rw[show nl B=1 by omega,val,val]at this;simpa using this
  have hBlt:B<2^32:=by rw[<-hl0];exact ec
  have hmod:A%B<2^32:=Nat.lt_trans (Nat.mod_lt _ aa) hBlt;simp only[Int.toNat_zero,hl0,bg];have e1:u64.wrap ((A%B:Nat):Int)=((A%B:Nat):Int):=by rw[wX,Nat.mod_eq_of_lt aa]
  rw[e1];have cn:∀{x:Nat},x<2^32->(0:Int)<=(x:Int)/\(x:Int)<2^64:=fun {x} h=>aa;refine⟨⟨aa,aa,aa,aa⟩,cn hmod,fun s' hv=>gd (gd (.inl ?_))⟩;refine iw (us:=[.mag (A/B),.mag (A%B),.int .i64 0]) (.inr rfl) hv ah ⟨.refl _,dY (by rw[if_neg hB0]),bP (by simp[hB0]),trivial⟩
 have hB0:B≠0:=fun h=>hb (by rw[hnl0.2 h];rfl);have hn2:2<=nl B:=by have:=g8.2 hB0;omega
 have hv:=jF (ls:=[0,1]) (l:=[4,5,6]) (vs:=[.mag A,.mag B]) hv rfl rfl;refine aG.chunk 1 (aG.fW hT nc hm 60 hv (h0 0) rfl trivial [0,1,13] UU ah ah ?_);have w1:i64.wrap ((nl B:Int)-1)=((nl B-1:Nat):Int):=fz aa aa;rw[w1];simp only[ag.all,ay,bg];have e1:nl B-(nl B-1)=1:=aa;rw[e1];have hlB:=ec (N:=B) (i:=nl B-1);have htopB:=yL hB0;have e2:(val 1 fun i=>numOf (AV.int .u32 (aD B (i+(nl B-1)):Nat)))=aD B (nl B-1):=by
  rw[val,val];simp[numOf]
 rw[e2];have hb32:bT (aD B (nl B-1))<=32:=iS.2 hlB;have w2:i64.wrap (32-((bT (aD B (nl B-1)):Nat):Int))=((32-bT (aD B (nl B-1)):Nat):Int):=fz aa aa;rw[w2];have hnl1:nl (aD B (nl B-1))=1:=by
  have:=g8.2 htopB;have:nl (aD B (nl B-1))<=1:=dL.2 aa;omega
 refine⟨⟨aa,fun i hi=>⟨_,ec,rfl⟩,aa,hnl1⟩,fun s' hv=>cV ?_⟩;obtain⟨s,hs⟩:∃s,s=32-bT (aD B (nl B-1)):=⟨_,rfl⟩
 rw[<-hs]at hv;obtain⟨hs32,hnV,hnorm,hVlt⟩:=Nx hB0 hs;rw[List.drop_drop];refine aG.fW hT nc hm 60 hv (h0 0) rfl trivial fS aan ah ah ?_;simp only[ag.all,ay,bg];obtain⟨V,hV⟩:∃V,V=B*2^s:=⟨_,rfl⟩
 obtain⟨R0,hR0⟩:∃R0,R0=A*2^s:=⟨_,rfl⟩
 rw[<-hV,<-hR0];rw[<-hV]at hnV hnorm hVlt;have hnR1:nl R0<=nl A+1:=dL.2 (by
  rw[hR0,show 32*(nl A+1)=32*nl A+32 by omega,Nat.pow_add];have h1:2^s<=2^32:=Nat.pow_le_pow_right aa aa;exact Nat.lt_of_lt_of_le ((Nat.mul_lt_mul_right (Nat.two_pow_pos s)).2 nR) (Nat.mul_le_mul_left _ h1))
 have hnR2:nl V<=nl R0:=iF (by rw[hV,hR0];exact Nat.mul_le_mul_right _ aa);obtain⟨lq,hlq⟩:∃lq,lq=nl R0-nl V+1:=⟨_,rfl⟩
 have w3:i64.wrap ((nl R0:Int)-(nl V:Int))=((lq:Nat):Int)-1:=by rw[wrap_i64 aa aa];omega
 have w4:i64.wrap (((lq:Nat):Int)-1+1)=((lq:Nat):Int):=fz aa aa;rw[w3,w4];simp only[bg];refine⟨⟨aa,aa,aa,aa,aa,aa⟩,aa,fun s' hv=>cV ?_⟩;refine ax.jh (dP (vs:=jm V s R0 lq ((lq:Int)-1) 7) (ps:=dK 7 lq fun _=>0) (nx:=8) [(7,65536)] hv hk0 rfl
  ⟨aM,aM,aM,aM,⟨rfl,cN rfl rfl rfl⟩,aM,trivial⟩ ⟨⟨_,_,rfl,rfl,gn rfl fun j _=>rfl⟩,trivial⟩) ?_
 have hv1:0<aD V (nl V-1):=by rw[hnV];omega
 refine afd h0 hs32 hB0 hV hR0 aa aa aa hv1 aa ?_ rfl;have hVge:2^(32*(nl V-1))<=V:=by
  rcases Nat.lt_or_ge V (2^(32*(nl V-1)))with h|h
  ·have:=dL.2 h;omega
  ·exact h
 have h1:=Nat.mul_le_mul_right (2^(32*lq)) hVge;rw[<-Nat.pow_add,show 32*(nl V-1)+32*lq=32*nl R0 by omega]at h1;exact Nat.lt_of_lt_of_le nR h1
def Nm:Spec:=nQ (fun A B=>oG A B) fun A B=>[nl A<2^38,nl B<2^38]
theorem OQ:aW P Nm 187:=qR fun h=>Tw h.1 h.2
theorem acN:aU 186 f186:=aS func186
def rJ:aX:=[(185,vf),(227,Es),(190,xM),(187,nQ (fun A B=>oG A B) fun A B=>[nl A<2^38,nl B<2^38])]
abbrev wQ:Code:=part (aE f186) [1,1,0,0,0]
abbrev yA:Code:=part wQ [1,0]
abbrev vK:Code:=part yA [1,1,0,1,0]
abbrev NC:Code:=part vK [0,0,0]
theorem tK:bn P rJ:=aH wK (aH Pr (aH CU (aH OQ bw)))
theorem SF:aI T rJ [] 60 [0,1] (before (aE f186) [1,1,0]) ⟨aN 0 [.mag A,.mag B],[],0⟩=
  some (ag.aj [nl A<2^40,nl B<2^40] (ag.leaf au.normal ([mag A,mag B],[]))):=ah
theorem ajM:aI T rJ [18] 60 [0,1] [part wQ [0]] ⟨aA [0,1] [.mag A,.mag B],[],0⟩=
  some (ag.fork (decide ((↑(nl B):Int)>0)) (ag.leaf au.normal ([mag A,mag B],[])) (ag.leaf (au.exit 0) ([mag A,mag B],[]))):=ah
theorem ac8:aI T rJ [30,32] 60 [0,1,5,7,32] (before yA [1,1,0,1]) ⟨aA [0,1] [.mag A,.mag B],[],0⟩=
  let b:=int .u64 (↑(if gH B=true then B else 0):Int);let a:=int .u64 (↑(if gH A=true then A else 0):Int);some (ag.fork (gH A) (ag.aj [gH A=true] (ag.leaf au.normal ([mag A,mag B,a,b,AV.bool (bif true then gH B else false)],[]))) (ag.aj [gH A=false] (ag.leaf au.normal ([mag A,mag B,a,b,AV.bool false],[])))):=ah
theorem ai6 {x y:Nat}:aI T rJ [34] 60 [5,7] [NC] ⟨aA [5,7] [.int .u64 x,.int .u64 y],[],0⟩=
  let a:=(↑y:Int);some (ag.fork (a !=(0:Int)) (ag.aj [a≠(0:Int)] (ag.leaf au.normal ([int .u64 a,int .u64 ((↑x:Int).tmod a)],[]))) (ag.leaf (au.exit 2) ([int .u64 (↑x:Int),int .u64 a],[]))):=ah
theorem ak3 {x y:Nat}:aI T rJ [] 60 [4] [part vK [1]] ⟨aA [5,7] [.int .u64 x,.int .u64 y],[],0⟩=
  some (ag.aj [(0:Int)<=(↑x:Int)/\(↑x:Int)<2^64] (ag.leaf au.ret ([mag (↑x:Int).toNat],[]))):=ah
theorem aiJ:aI T rJ [] 60 [0,1] (behind yA [1,1,0,1]) ⟨aA [0,1] [.mag A,.mag B],[],0⟩=
  some (ag.aj [nl A<2^38,nl B<2^38] (ag.leaf au.normal ([mag B,mag (if B=0 then 0 else A%B)],[]))):=ah
theorem ajF:ct T rJ [] 60 f186 (behind (aE f186) [1,1,0]) ⟨aA [0,1] [.mag A,.mag B],[],0⟩=
  some (ag.leaf au.ret [mag A]):=ah
theorem WI {s:aK} {ls l:List Nat} {vs us:List AV} {os:aC} (hv:bD (l++ls) s=some (us++vs,os)) (hl:us.length=l.length) (hk:bN us=[]):bD ls s=some (vs,os):=by
 unfold bD at hv ⊢;simp only[az,Prod.mk.injEq,Fc]at hv ⊢;obtain⟨h1,h2⟩:=hv;obtain⟨h3,h4⟩:=List.append_inj h1 (by rw[Il,hl]);subst h4;refine⟨rfl,?_⟩;rw[<-h2,h3,KQ,hk,List.nil_append]
theorem YB (hA:nl A<2^38) (hB:nl B<2^38) (K:Nat):aQ P 186 K [.mag A,.mag B] [] (aJ (.mag (Nat.gcd A B)) []):=by
 refine fV hT acN rfl aV rfl (fun _ c h0=>?_) K [];have hk0:=BG h0;refine ax.hole [1,1,0] ah (aG.bE hT tK hm 60 [0,1] SF ah ?_);simp only[ag.all,ay];refine⟨⟨aa,aa⟩,fun s' hv=>cV ?_⟩;refine ax.iN (i:=0) (y:=wQ) ah [0,1] 0 (h0 0) (fun p:Nat×Nat=>[.mag p.1,.mag p.2]) (fun _=>[]) (fun _=>rfl) (fun _=>trivial)
  (fun p=>Nat.gcd p.1 p.2=Nat.gcd A B/\nl p.1<2^38/\nl p.2<2^38) (fun p=>p.2) (A,B) hv ⟨rfl,hA,hB⟩ ?_
 rintro⟨X,Y⟩ ⟨hg,hX,hY⟩;simp only at hg hX hY;have hstep:∀{X Y:Nat},Y≠0->Nat.gcd Y (X%Y)=Nat.gcd X Y:=fun {X Y} _=>by rw[Nat.gcd_comm X Y,Nat.gcd_rec Y X,Nat.gcd_comm]
 refine ax.hole [0] ah (show ax P c f186.ntmps (part wQ [0]) _ _ from ax.bE hT tK hm 60 [0,1] ajM ah ?_);simp only[ag.all,br,bC];refine⟨fun hb s' hv=>cV ?_,fun hb s' hv=>tc (gk ?_)⟩
 ·have hY0:Y≠0:=g8.1 aa;have hlt:=Nat.mod_lt X (show 0<Y by omega);show ax P c f186.ntmps (part wQ [1]) s' _;refine ax.qH (i:=1) (y:=yA) ah ?_;refine ax.hole [1,1,0,1] ah (aG.fW hT tK hm 60 hv (h0 0) rfl trivial [0,1,5,7,32] ac8 ah ah ?_);simp only[ag.all,ay];have fin:∀{s':aK} {Q:au->aK->Prop},bD [0,1] s'=some ([.mag X,.mag Y],[])->(∀s',bD [0,1] s'=some ([.mag Y,.mag (X%Y)],[])->Q .normal s')->aG P c f186.ntmps (behind yA [1,1,0,1]) s' Q:=by
   intro s' Q hv h;refine aG.fW hT tK hm 60 hv (h0 0) rfl trivial [0,1] aiJ ah ah ?_;simp only[ag.all,ay];exact⟨⟨hX,hY⟩,fun s' hv=>h s' (er hv (by rw[if_neg hY0]) rfl)⟩
  have good:∀{s':aK},bD [0,1] s'=some ([.mag Y,.mag (X%Y)],[])->∃k:Nat×Nat,bD [0,1] s'=some ([.mag k.1,.mag k.2],[])/\(Nat.gcd k.1 k.2=Nat.gcd A B/\nl k.1<2^38/\nl k.2<2^38)/\k.2<Y:=
   fun hv=>⟨(Y,X%Y),hv,⟨by rw[<-hg];exact hstep hY0,hY,Nat.lt_of_le_of_lt (iF (Nat.le_of_lt hlt)) hY⟩,hlt⟩
  refine⟨fun hf=>⟨hf,fun s' hv=>cV ?_⟩,fun hf=>⟨hf,fun s' hv=>cV ?_⟩⟩
  ·refine ax.cond (b:=.tmp 32) (t:=gH Y) (x:=vK) (y:=.skip) (Ap hv rfl rfl) (fun hf2=>?_) (fun _=>ax.skip ?_)
   ·rw[if_pos hf,if_pos hf2]at hv;have hX64:X<2^64:=by unfold gH at hf;simpa using hf
    have hY64:Y<2^64:=by unfold gH at hf2;simpa using hf2
    have hv:=WI (l:=[0,1]) (us:=[.mag X,.mag Y]) (jF (ls:=[0,1,5,7]) (vs:=[.mag X,.mag Y,.int .u64 (X:Nat),.int .u64 (Y:Nat)]) hv rfl rfl) rfl rfl;refine ax.hole [0] ah ?_;show ax P c f186.ntmps (part vK [0]) s' _;refine ax.iN (i:=2) (y:=NC) ah [5,7] 0 (h0 0) (fun p:Nat×Nat=>[.int .u64 (p.1:Nat),.int .u64 (p.2:Nat)]) (fun _=>[]) (fun _=>rfl) (fun _=>trivial)
     (fun p=>Nat.gcd p.1 p.2=Nat.gcd A B/\p.1<2^64/\p.2<2^64) (fun p=>p.2) (X,Y) hv ⟨hg,hX64,hY64⟩ ?_
    rintro⟨x,y⟩ ⟨hg,hx,hy⟩;simp only at hg hx hy;refine ax.bE hT tK hm 60 [5,7] ai6 ah ?_;simp only[ag.all,ay,bne_iff_ne,ne_eq,bne_eq_false_iff_eq];refine⟨fun hb=>⟨hb,fun s' hv=>cV ?_⟩,fun hb s' hv=>gk ?_⟩
    ·have hy0:y≠0:=aa;have hlt:=Nat.mod_lt x (show 0<y by omega);exact⟨(y,x%y),er hv (by rw[<-Int.ofNat_tmod]) rfl,⟨by rw[<-hg];exact hstep hy0,hy,by simp only;omega⟩,hlt⟩
    ·have hy0:y=0:=aa;show aG P c f186.ntmps [part vK [1]] s' _;refine aG.fW hT tK hm 60 hv (h0 0) rfl trivial [4] ak3 ah ah ?_;simp only[ag.all,ay,bg];refine⟨aa,fun s' hv=>?_⟩;rw[show x=Nat.gcd A B by rw[<-hg,hy0,Nat.gcd_zero_right]]at hv;exact(.inl (iw (us:=[.mag (Nat.gcd A B)]) (.inr rfl) hv ah (dY rfl)))
   ·exact cV (fin (jF (ls:=[0,1]) (vs:=[.mag X,.mag Y]) hv rfl rfl) fun s' hv=>good hv)
  ·refine ax.cond (b:=.tmp 32) (t:=false) (x:=vK) (y:=.skip) (Ap hv rfl rfl) (fun h=>by simp at h) (fun _=>ax.skip ?_);exact cV (fin (jF (ls:=[0,1]) (vs:=[.mag X,.mag Y]) hv rfl rfl) fun s' hv=>good hv)
 ·have hY0:Y=0:=jX.1 aa;show aG P c f186.ntmps (behind (aE f186) [1,1,0]) s' _;refine aG.lE hT tK hm 60 hv (h0 0) rfl trivial ajF ah ah (dY ?_);rw[<-hg,hY0,Nat.gcd_zero_right]
def DB:Spec:=nQ (fun A B=>.mag (Nat.gcd A B)) fun A B=>[nl A<2^38,nl B<2^38]
theorem Lg:aW P DB 186:=qR fun h=>YB h.1 h.2
theorem S0:aU 123 f123:=aS func123
theorem ahW:aU 124 f124:=aS func124
theorem aln:aU 132 f132:=aS func132
theorem afS:aU 83 f83:=aS func83
theorem amq:aU 156 f156:=aS func156
theorem ahn:aU 121 f121:=aS func121
def GE:aX:=[(185,vf),(186,DB),(187,Nm),(190,xM),(126,yP)]
theorem wh:bn P GE:=aH wK (aH Lg (aH OQ (aH CU (aH CC bw))))
theorem WC {q:Rat} {n:Nat}:bX T GE [6] 60 f123 (aE f123) ⟨aN 0 [.rat q n],[],0⟩=
  let a:=if q.den=1 then 0 else q.den;some (ag.aj [(0:Nat)<1] (ag.fork ((↑(nl a):Int)==0) (ag.aj [(1:Nat)*1<=2^24] (ag.leaf au.ret [ak 1 1 fun i=>nth [int .u32 (1:Int)] (int .u32 (0:Int)) (i+0)])) (ag.aj [(0:Nat)<1] (ag.leaf au.ret [mag a])))):=ah
theorem abi {b:Bool} {D:Nat}:bX T GE [14,22,27,45,50] 60 f124 (aE f124) ⟨aN 0 [.bool b,.mag N,.mag D],[],0⟩=
  let g:=(0:Int)<=0;let a:=N.gcd D;let f:=(↑(nl D):Int)==1;let i:=Int.toNat (0:Int);let h:=2^38;let d:=[(0:Nat)<1];let e:=(↑(nl a):Int)!=1;let j:ag (List AV):=ag.aj d (ag.aj d (ag.leaf au.ret [agg [AV.bool b,mag N,nil]]));let p:ag (List AV):=ag.aj d (ag.aj d (ag.leaf au.ret [agg [AV.bool b,mag N,mag D]]));let k:=(↑(nl (D/a)):Int)==1;let o:ag (List AV):=ag.aj d (ag.aj d (ag.leaf au.ret [agg [AV.bool b,mag (N/a),nil]]));let n:ag (List AV):=ag.aj d (ag.aj d (ag.leaf au.ret [agg [AV.bool b,mag (N/a),mag (D/a)]]));let m:ag (List AV):=ag.fork f (ag.aj [f=true,g/\i<nl D] (ag.fork (bif true then(↑(aD D i):Int)==1 else false) j p)) (ag.aj [f=false] (ag.fork false j p));let l:ag (List AV):=ag.aj [nl N<h,nl a<h] (ag.aj [nl D<h,nl a<h] (ag.fork k (ag.aj [k=true,g/\i<nl (D/a)] (ag.fork (bif true then(↑(aD (D/a) i):Int)==1 else false) o n)) (ag.aj [k=false] (ag.fork false o n))));some (ag.aj [nl N<2^40,nl D<2^40] (ag.fork ((↑(nl N):Int)==0) (ag.aj d (ag.aj d (ag.leaf au.ret [agg [AV.bool false,mag 0,mag 0]]))) (ag.aj [nl N<h,nl D<h] (ag.fork e (ag.aj [e=true] (ag.fork true l m)) (ag.aj [e=false,g/\i<nl a] (ag.fork (bif false then true else(↑(aD a i):Int)!=1) l m)))))):=ah
theorem aiX {n:Int}:bX T GE [5] 60 f132 (aE f132) ⟨aN 0 [.int .i64 n],[],0⟩=
  let b:=u64.wrap n;let a:=u64.wrap (u64.wrap (i64.wrap ((0:Int)-i64.wrap (n+1)))+1);some (ag.fork (decide (n<0)) (ag.aj [(0:Int)<=a/\a<2^64] (ag.leaf au.ret [mag a.toNat,AV.bool true])) (ag.aj [(0:Int)<=b/\b<2^64] (ag.leaf au.ret [mag b.toNat,AV.bool false]))):=ah
theorem YM {q r:Rat} {n m:Nat}:bX T GE [10,18] 60 f83 (aE f83) ⟨aN 0 [.rat q n,.rat r m],[],0⟩=
  let i:=if r.den=1 then 0 else r.den;let h:=if q.den=1 then 0 else q.den;let b:=2^40;let e:=bif true then dw q.num.natAbs r.num.natAbs==0 else false;let d:=decide (q<0)==decide (r<0);let a:=0<1;let g:=[a,a,nl h<b,nl i<b];let f:ag (List AV):=ag.leaf au.ret [AV.bool (bif true then dw h i==0 else false)];some (ag.fork d (ag.fork e (ag.aj (a::a::(d=true)::a::a::(nl q.num.natAbs<b)::(nl r.num.natAbs<b)::(e=true)::g) f) (ag.aj [a,a,d=true,a,a,nl q.num.natAbs<b,nl r.num.natAbs<b,e=false] (ag.leaf au.ret [AV.bool false]))) (ag.fork false (ag.aj (a::a::(d=false)::(false=true)::g) f) (ag.aj [a,a,d=false,false=false] (ag.leaf au.ret [AV.bool false])))):=ah
theorem aiq {q:Rat} {n:Nat}:bX T GE [6,8] 60 f156 (aE f156) ⟨aN 0 [.rat q n],[],0⟩=
  some (ag.aj [(0:Nat)<1] (ag.fork ((↑(nl q.num.natAbs):Int)==0) (ag.leaf au.ret [int .i64 (0:Int)]) (ag.aj [(0:Nat)<1] (ag.fork (decide (q<0)) (ag.leaf au.ret [int .i64 (-1:Int)]) (ag.leaf au.ret [int .i64 (1:Int)]))))):=ah
theorem adR {q:Rat} {n:Nat}:bX T GE [6] 60 f121 (aE f121) ⟨aN 0 [.rat q n],[],0⟩=
  let e:=(↑(nl q.num.natAbs):Int);let b:=!decide (q<0);let d:=[mag q.num.natAbs,mag (if q.den=1 then 0 else q.den)];let a:=0<1;some (ag.fork b (ag.aj [a,b=true,a,a] (ag.aj [a,a] (ag.aj [a] (ag.leaf au.ret [agg (AV.bool (bif true then decide (e>0)else false)::d)])))) (ag.aj [a,b=false,a] (ag.aj [a,a] (ag.aj [a] (ag.leaf au.ret [agg (AV.bool false::d)]))))):=ah
theorem aju {q:Rat} {n:Nat} (K:Nat) (pre:aC):aQ P 123 K [.rat q n] pre (aJ (.mag q.den) []):=by
 refine b9 hT wh hm S0 rfl aV rfl 60 WC (fun _=>?_) K pre;simp only[ag.all,ay,beq_iff_eq,beq_eq_false_iff_ne,ne_eq];refine⟨aa,fun hb=>⟨aa,?_⟩,fun hb=>⟨aa,dY ?_⟩⟩
 ·have h0:=q.den_nz;have:(if q.den=1 then 0 else q.den)=0:=jX.1 aa;have h1:q.den=1:=by split at this;assumption;exact absurd this h0
  rw[h1];exact mu (by decide) fun i hi=>by rw[show i=0 by omega];exact congrArg (AV.int .u32) (show(1:Int)=((aD 1 0:Nat):Int) by decide)
 ·have:q.den≠1:=fun h=>hb (by rw[if_pos h];rfl);rw[if_neg this]
theorem aez {b:Bool} {D:Nat} (hN:nl N<2^38) (hD:nl D<2^38) (hD0:D≠0) (K:Nat) (pre:aC):aQ P 124 K [.bool b,.mag N,.mag D] pre (aJ (.rat (sQ b N D) (dj (sQ b N D))) []):=by
 refine b9 hT wh hm ahW rfl aV rfl 60 abi (fun _=>?_) K pre;have hz:sQ b N D=0->bV (.agg [.bool false,.mag 0,.mag 0]) (.rat (sQ b N D) (dj (sQ b N D))):=fun h=>by
  rw[h];exact jB
 simp only[ag.all,ay,beq_iff_eq,beq_eq_false_iff_ne,ne_eq,bne_iff_ne,bne_eq_false_iff_eq,Int.toNat_zero];refine⟨⟨aa,aa⟩,fun hb=>⟨aa,aa,hz ?_⟩,fun hb=>?_⟩
 ·rw[jX.1 (show nl N=0 by omega),Fu]
 have hN0:N≠0:=fun h=>hb (by rw[jX.2 h];rfl);have hg:nl (Nat.gcd N D)<2^38:=Nat.lt_of_le_of_lt (iF (Nat.gcd_le_left _ aa)) hN;have hg0:0<Nat.gcd N D:=Nat.gcd_pos_of_pos_left _ aa;have hl:∀{Y:Nat},nl Y=1->aD Y 0=Y:=fun {Y} h=>by
  have:=gL (N:=Y);rw[h,val,val]at this;simpa using this
 have h1:∀{X Y:Nat},X=N/Nat.gcd N D->Y=D/Nat.gcd N D->Y≠1->bV (.agg [.bool b,.mag X,.mag Y]) (.rat (sQ b N D) (dj (sQ b N D))):=fun eX eY h=>uC hN0 hD0 eX (by rw[<-eY,if_neg h]) Aw;have h2:∀{X Y:Nat},X=N/Nat.gcd N D->Y=D/Nat.gcd N D->Y=1->bV (.agg [.bool b,.mag X,.nil]) (.rat (sQ b N D) (dj (sQ b N D))):=fun eX eY h=>Pm.trans (uC hN0 hD0 eX (by rw[<-eY,if_pos h]) Aw);have i1:∀{Y:Nat},(nl Y:Int)=1->(bif true then((aD Y 0:Nat):Int)==1 else false)=true->Y=1:=fun {Y} h hc=>by
  have:=j7 hc;rw[hl aa]at this;have:=eq_of_beq this;omega
 have i2:∀{Y:Nat},(nl Y:Int)=1->(bif true then((aD Y 0:Nat):Int)==1 else false)=false->Y≠1:=fun {Y} h hc h1=>by
  have:=j7 hc;rw[hl aa,h1]at this;simp at this
 have i3:∀{Y:Nat},¬(nl Y:Int)=1->Y≠1:=fun {Y} h h1=>h (by rw[h1];decide);have g1:(nl (Nat.gcd N D):Int)=1->(bif false then true else((aD (Nat.gcd N D) 0:Nat):Int)!=1)=false->Nat.gcd N D=1:=fun h hc=>by
  have:=jk hc;rw[hl aa]at this;simp at this;omega
 refine⟨⟨hN,hD⟩,fun hb=>⟨hb,fun _=>⟨⟨hN,hg⟩,⟨hD,hg⟩,?_⟩,fun h=>by simp at h⟩,fun hb=>⟨⟨hb,aa,aa⟩,fun hc=>⟨⟨hN,hg⟩,⟨hD,hg⟩,?_⟩,fun hc=>?_⟩⟩
 ·exact⟨fun hb=>⟨⟨hb,aa,aa⟩,fun hc=>⟨aa,aa,h2 rfl rfl (i1 hb hc)⟩,fun hc=>⟨aa,aa,h1 rfl rfl (i2 hb hc)⟩⟩,fun hb=>⟨hb,fun h=>by simp at h,fun _=>⟨aa,aa,h1 rfl rfl (i3 hb)⟩⟩⟩
 ·exact⟨fun hb=>⟨⟨hb,aa,aa⟩,fun hc=>⟨aa,aa,h2 rfl rfl (i1 hb hc)⟩,fun hc=>⟨aa,aa,h1 rfl rfl (i2 hb hc)⟩⟩,fun hb=>⟨hb,fun h=>by simp at h,fun _=>⟨aa,aa,h1 rfl rfl (i3 hb)⟩⟩⟩
 ·have e:=g1 hb hc;have eN:N=N/Nat.gcd N D:=by rw[e,Nat.div_one]
  have eD:D=D/Nat.gcd N D:=by rw[e,Nat.div_one]
  exact⟨fun hb=>⟨⟨hb,aa,aa⟩,fun hc=>⟨aa,aa,h2 eN eD (i1 hb hc)⟩,fun hc=>⟨aa,aa,h1 eN eD (i2 hb hc)⟩⟩,fun hb=>⟨hb,fun h=>by simp at h,fun _=>⟨aa,aa,h1 eN eD (i3 hb)⟩⟩⟩
theorem aeo {n:Int} (h1:-2^63<=n) (h2:n<2^63) (K:Nat) (pre:aC):aQ P 132 K [.int .i64 n] pre (aJ (.tuple [.mag n.natAbs,.bool (decide (n<0))]) []):=by
 refine b9 hT wh hm aln rfl aV rfl 60 aiX (fun _=>?_) K pre;simp only[ag.all,ay,br,bC];refine⟨fun hb=>?_,fun hb=>?_⟩
 ·have e:i64.wrap (n+1)=n+1:=wrap_i64 aa aa;have e1:i64.wrap (0-(n+1))=-n-1:=by rw[wrap_i64 aa aa];omega
  have e2:u64.wrap (-n-1)=-n-1:=cC aa aa;have e3:u64.wrap (-n-1+1)=((n.natAbs:Nat):Int):=by rw[cC aa aa];omega
  rw[e,e1,e2,e3];exact⟨aa,dY (by rw[bg]),gQ (by simp[hb]),trivial⟩
 ·have e3:u64.wrap n=((n.natAbs:Nat):Int):=by rw[cC aa aa];omega
  rw[e3];exact⟨aa,dY (by rw[bg]),gQ (by simp[hb]),trivial⟩
theorem CV {a b:Nat}:dw a b=0↔a=b:=by unfold dw;split<;>(try split)<;>omega
theorem JH {q r:Rat} {n m:Nat} (hn:n<2^44) (hm':m<2^44) (K:Nat) (pre:aC):aQ P 83 K [.rat q n,.rat r m] pre (aJ (.bool (decide (q=r))) []):=by
 refine jn fun⟨hs1,hs2,_⟩=>?_;obtain⟨a1,a2,a3⟩:=Sz.jY hs1 hn;obtain⟨b1,b2,b3⟩:=Sz.jY hs2 hm';refine b9 hT wh hm afS rfl aV rfl 60 YM (fun _=>?_) K pre;simp only[ag.all,ay];refine⟨fun hb=>⟨fun hc=>⟨⟨aa,aa,hb,aa,aa,a1,b1,hc,aa,aa,a3,b3⟩,gQ ?_⟩,fun hc=>⟨⟨aa,aa,hb,aa,aa,a1,b1,hc⟩,gQ ?_⟩⟩,fun hb=>⟨fun h=>by simp at h,fun _=>⟨⟨aa,aa,hb,trivial⟩,gQ ?_⟩⟩⟩
 ·have h1:=eq_of_beq hb;have h2:=CV.1 (eq_of_beq (j7 hc));rw[cond_true];exact(decide_eq_decide (p:=_=0) (q:=q=r)).2 ⟨fun h=>rm.2 ⟨h1,h2,CV.1 h⟩,fun h=>CV.2 (rm.1 h).2.2⟩
 ·have h2:=j7 hc;refine(decide_eq_false fun h=>?_).symm;rw[CV.2 (rm.1 h).2.1]at h2;simp at h2
 ·refine(decide_eq_false fun h=>?_).symm;rw[(rm.1 h).1]at hb;simp at hb
theorem Ee {q:Rat} {n:Nat} (K:Nat) (pre:aC):aQ P 156 K [.rat q n] pre (aJ (.int .i64 (fy q)) []):=by
 refine b9 hT wh hm amq rfl aV rfl 60 aiq (fun _=>?_) K pre;simp only[ag.all,ay,beq_iff_eq,beq_eq_false_iff_ne,ne_eq];refine⟨aa,fun hb=>bP ?_,fun hb=>⟨aa,fun hc=>bP ?_,fun hc=>bP ?_⟩⟩
 ·have h0:q=0:=oE.1 (jX.1 aa);subst h0;rfl
 ·have:=of_decide_eq_true hc;unfold fy;rw[if_pos this]
 ·have h1:=of_decide_eq_false hc;have h0:q≠0:=fun h=>hb (by rw[h];rfl);unfold fy;rw[if_neg h1,if_pos (RW h0 h1)]
theorem abz {q:Rat} {n:Nat} (K:Nat) (pre:aC):aQ P 121 K [.rat q n] pre (aJ (.rat (-q) n) []):=by
 refine jn fun⟨hs1,_⟩=>?_;have hs1:Sz q n:=hs1;have hs2:=hs1.neg;have e1:(-q).num.natAbs=q.num.natAbs:=by rw[Rat.neg_num,Int.natAbs_neg]
 have e2:(-q).den=q.den:=Rat.neg_den q;refine b9 hT wh hm ahn rfl aV rfl 60 adR (fun _=>?_) K pre;simp only[ag.all,ay];refine⟨fun hb=>⟨⟨aa,hb,aa,aa⟩,⟨aa,aa⟩,aa,tX hs2 ?_ e1.symm (by rw[e2])⟩,fun hb=>⟨⟨aa,hb,aa⟩,⟨aa,aa⟩,aa,tX hs2 ?_ e1.symm (by rw[e2])⟩⟩
 ·have hq:¬q<0:=by simpa using hb
  rw[cond_true];have h1:¬q.num<0:=fun h=>hq (jK.2 h);exact((decide_eq_decide (p:=-q<0) (q:=(nl q.num.natAbs:Int)>0)).2 (by
   rw[jK,Rat.neg_num];have:=g8 (N:=q.num.natAbs);omega)).symm
 ·have hq:q<0:=by simpa using hb
  have:=jK.1 hq;exact(decide_eq_false (p:=-q<0) (by rw[jK,Rat.neg_num];omega)).symm
def Da (g:Rat->Nat->dI):Spec:=ck fun l=>match l with
 |[.rat q n]=>some (g q n)
 |_=>none
theorem DZ {f:FuncId} {g:Rat->Nat->dI} (h:∀{q:Rat} {n:Nat} K,aQ P f K [.rat q n] [] (g q n)):aW P (Da g) f:=by
 refine cK fun K args r hk hs _=>?_;split at hs
 ·simp only[az]at hs;subst hs;exact h K
 ·simp at hs
def Bf:Spec:=Da fun q _=>aJ (.mag q.den) []
theorem GL:aW P Bf 123:=DZ fun K=>aju K []
def Pw:Spec:=Da fun q _=>aJ (.int .i64 (fy q)) []
theorem SU:aW P Pw 156:=DZ fun K=>Ee K []
def Hl:Spec:=Da fun q n=>aJ (.rat (-q) n) []
theorem I0:aW P Hl 121:=DZ fun K=>abz K []
def Mn:Spec:=ck fun l=>match l with
 |[.int .i64 n]=>some (aJ (.tuple [.mag n.natAbs,.bool (decide (n<0))]) [-2^63<=n,n<2^63])
 |_=>none
theorem aiD:aW P Mn 132:=by
 refine cK fun K args r hk hs _=>?_;split at hs
 ·simp only[az]at hs;subst hs;exact fun need=>aeo need.1 need.2 K [] trivial
 ·simp at hs
def Qv:Spec:=ck fun l=>match l with
 |[.bool b,x,y]=>match jI x,jI y with
  |some N,some D=>some (aJ (.rat (sQ b N D) (dj (sQ b N D))) [nl N<2^38,nl D<2^38,D≠0])
  |_,_=>none
 |_=>none
theorem aaV:aW P Qv 124:=by
 refine cK fun K args r hk hs _=>?_;split at hs
 ·split at hs
  ·rename_i N D h1 h2;simp only[az]at hs;subst hs;exact fun need=>gW (aez need.1 need.2.1 need.2.2 K []) hk ⟨.refl _,mL h1,mL h2,trivial⟩ [] trivial
  ·simp at hs
 ·simp at hs
theorem akK:aU 44 f44:=aS func44
theorem U0:aU 43 f43:=aS func43
theorem SQ:aU 58 f58:=aS func58
theorem alJ:aU 82 f82:=aS func82
theorem SE:aU 128 f128:=aS func128
theorem Tk:aU 45 f45:=aS func45
theorem ag2:aU 51 f51:=aS func51
def tU:aX:=[(123,Bf),(122,EB),(125,QB),(127,Jv),(126,yP),(124,Qv),(156,Pw),(121,Hl),(132,Mn)]
def Ok:Spec:=ck fun l=>match l with
 |[.int .i64 x,.int .i64 y]=>some (aJ (.tuple [.rat ((x:Rat)/(y:Rat)) 64,.int .i64 (if y=0 then 3 else 0)]) [-2^63<=x,x<2^63,-2^63<=y,y<2^63])
 |_=>none
def KW:Spec:=ck fun l=>match l with
 |[.rat q n,.rat r m]=>some (aJ (.rat (q+r) (n+m+1)) [n<2^41,m<2^41])
 |_=>none
def Fa:aX:=[(44,KW),(121,Hl),(128,Ok)]
theorem vp:bn P tU:=aH GL (aH M5 (aH aau (aH abJ (aH CC (aH aaV (aH SU (aH I0 (aH aiD bw))))))))
theorem YZ {q r:Rat} {n m:Nat}:bX T tU [15,20,41,52] 60 f44 (aE f44) ⟨aN 0 [.rat q n,.rat r m],[],0⟩=
  let g:=decide (r<0);let j:=2^38;let f:=q.den*r.den;let i:=decide (q<0);let h:=2^39;let e:=2^40;let d:=q.num.natAbs*r.den;let b:=r.num.natAbs*q.den;let a:=0<1;let k:=[nl f<j,f≠0,a];some (ag.aj [a] (ag.fork ((↑(nl q.num.natAbs):Int)==0) (ag.aj [a,a] (ag.aj [a] (ag.leaf au.ret [rat r m]))) (ag.aj [a] (ag.fork ((↑(nl r.num.natAbs):Int)==0) (ag.aj [a,a] (ag.aj [a] (ag.leaf au.ret [rat q n]))) (ag.aj [a,a,nl q.num.natAbs<h,nl r.den<h,a,a,nl r.num.natAbs<h,nl q.den<h] (ag.aj [a,a,nl q.den<h,nl r.den<h] (ag.aj [a,a] (ag.fork (i==g) (ag.aj (a::(nl d<e)::(nl b<e)::(nl (d+b)<j)::k) (ag.aj [a] (ag.leaf au.ret [rat (sQ i (d+b) f) (dj (sQ i (d+b) f))]))) (ag.aj [nl d<e,nl b<e] (ag.fork (decide (dw d b<0)) (ag.aj [nl b<e,nl d<e] (ag.aj (a::(nl (b-d)<j)::k) (ag.aj [a] (ag.leaf au.ret [rat (sQ g (b-d) f) (dj (sQ g (b-d) f))])))) (ag.aj [nl d<e,nl b<e] (ag.aj (a::(nl (d-b)<j)::k) (ag.aj [a] (ag.leaf au.ret [rat (sQ i (d-b) f) (dj (sQ i (d-b) f))])))))))))))))):=ah
theorem ah2 {q r:Rat} {n m:Nat}:bX T tU [] 60 f58 (aE f58) ⟨aN 0 [.rat q n,.rat r m],[],0⟩=
  let e:=q.num.natAbs*r.num.natAbs;let b:=2^39;let a:=0<1;let d:=sQ (decide (q<0)!=decide (r<0)) e (q.den*r.den);some (ag.aj [a,a,a,a,nl q.num.natAbs<b,nl r.num.natAbs<b,a,a,nl q.den<b,nl r.den<b,nl e<2^38,nl (q.den*r.den)<2^38,q.den*r.den≠0,a] (ag.aj [a] (ag.leaf au.ret [rat d (dj d)]))):=ah
theorem akf {q r:Rat} {n m:Nat}:bX T tU [14,17,30] 60 f82 (aE f82) ⟨aN 0 [.rat q n,.rat r m],[],0⟩=
  let d:=dw (q.num.natAbs*r.den) (r.num.natAbs*q.den);let b:=2^39;let a:=0<1;some (ag.aj [a,a] (ag.fork (fy q !=fy r) (ag.fork (decide (fy q<fy r)) (ag.leaf au.ret [int .i64 (-1:Int)]) (ag.leaf au.ret [int .i64 (1:Int)])) (ag.aj [a,a,nl q.num.natAbs<b,nl r.den<b,a,a,nl r.num.natAbs<b,nl q.den<b,nl (q.num.natAbs*r.den)<2^40,nl (r.num.natAbs*q.den)<2^40] (ag.aj [a] (ag.fork (decide (q<0)) (ag.leaf au.ret [int .i64 (i64.wrap ((0:Int)-d))]) (ag.leaf au.ret [int .i64 d])))))):=ah
theorem afV {x:Int}:bX T tU [11] 60 f128 (aE f128) ⟨aN 0 [.int .i64 x,.int .i64 y],[],0⟩=
  let b:=[(0:Nat)<1];let a:=(2:Int)^63;let d:=sQ (decide (x<0)!=decide (y<0)) x.natAbs y.natAbs;some (ag.fork (y==0) (ag.aj b (ag.aj b (ag.leaf au.ret [agg [AV.bool false,mag 0,mag 0],int .i64 (3:Int)]))) (ag.aj [-a<=x,x<a] (ag.aj [-a<=y,y<a] (ag.aj ((nl x.natAbs<2^38)::(nl y.natAbs<2^38)::(y.natAbs≠0)::b) (ag.aj b (ag.leaf au.ret [rat d (dj d),int .i64 (0:Int)])))))):=ah
theorem Ud {x:Int}:bX T tU [] 60 f51 (aE f51) ⟨aN 0 [.int .i64 x],[],0⟩=
  some (ag.aj [-(2:Int)^63<=x,x<2^63] (ag.aj [(0:Nat)<1] (ag.aj [(0:Nat)<1] (ag.leaf au.ret [agg [AV.bool (decide (x<0)),mag x.natAbs,mag 0]])))):=ah
theorem Yn {q r:Rat} {n m:Nat}:bX T Fa [] 60 f43 (aE f43) ⟨aN 0 [.rat q n,.rat r m],[],0⟩=
  let a:=0<1;some (ag.aj [a,a,n<2^41,m<2^41,a] (ag.aj [a] (ag.leaf au.ret [rat (q+-r) (n+m+1)]))):=ah
theorem acH {x:Int}:bX T Fa [] 60 f45 (aE f45) ⟨aN 0 [.int .i64 x,.int .i64 y],[],0⟩=
  let b:=0<1;let a:=(2:Int)^63;some (ag.aj [-a<=x,x<a,-a<=y,y<a,b] (ag.aj [b,b] (ag.aj [b] (ag.leaf au.ret [rat ((↑x:Rat)/(↑y:Rat)) 64])))):=ah
theorem fR {n:Nat} (h:N<2^n) (hn:n<2^42):nl N<2^38:=by
 have h1:N<2^(32*(n/32+1)):=Nat.lt_of_lt_of_le h (Nat.pow_le_pow_right aa aa);have:=dL.2 h1;omega
section ops
variable {q r:Rat} {n m:Nat}
theorem pq {a b n m:Nat} (ha:a<2^n) (hb:b<2^m):a*b<2^(n+m):=by rw[Nat.pow_add];exact Nat.mul_lt_mul'' ha hb
theorem GF (hn:n<2^41) (hm':m<2^41) (K:Nat):aQ P 44 K [.rat q n,.rat r m] [] (aJ (.rat (q+r) (n+m+1)) []):=by
 refine jn fun⟨hq,hr,_⟩=>?_;have hq:Sz q n:=hq;have hr:Sz r m:=hr;have d1:=q.den_nz;have d2:=r.den_nz;have hz:=hq.add hr;have a1:nl q.num.natAbs<2^38:=fR hq.1 aa;have a2:nl q.den<2^38:=fR hq.2 aa;have b1:nl r.num.natAbs<2^38:=fR hr.1 aa;have b2:nl r.den<2^38:=fR hr.2 aa;have x1:=pq hq.1 hr.2;have x2:=pq hr.1 hq.2;have m1:nl (q.num.natAbs*r.den)<2^38:=fR x1 aa;have m2:nl (r.num.natAbs*q.den)<2^38:=fR x2 aa;have m3:nl (q.den*r.den)<2^38:=fR (pq hq.2 hr.2) aa;have m4:nl (q.num.natAbs*r.den+r.num.natAbs*q.den)<2^38:=fR (n:=n+m+1) (by rw[Nat.pow_succ];rw[Nat.add_comm m n]at x2;omega) aa;have hd0:q.den*r.den≠0:=Nat.mul_ne_zero d1 d2;have hv:q+r=sQ (decide (q<0)) (q.num.natAbs*r.den) (q.den*r.den)+sQ (decide (r<0)) (r.num.natAbs*q.den) (q.den*r.den):=by
  have:=GY q r (decide (r<0));rw[lM r]at this;exact this
 refine b9 hT vp hm akK rfl aV rfl 60 YZ (fun _=>?_) K [];generalize q.num.natAbs*r.den=X at*;generalize r.num.natAbs*q.den=Y at*;generalize q.den*r.den=D at*;simp only[ag.all,ay,beq_iff_eq,beq_eq_false_iff_ne,ne_eq,br,bC,AK];have m5:nl (Y-X)<2^38:=Nat.lt_of_le_of_lt (iF aa) m2;have m6:nl (X-Y)<2^38:=Nat.lt_of_le_of_lt (iF aa) m1;refine⟨aa,fun hb=>⟨⟨aa,aa⟩,aa,dB ?_ hz⟩,fun hb=>⟨aa,fun hb2=>⟨⟨aa,aa⟩,aa,dB ?_ hz⟩,fun hb2=>⟨⟨aa,aa,aa,aa,aa,aa,aa,aa⟩,⟨aa,aa,aa,aa⟩,⟨aa,aa⟩,
  fun hs=>⟨⟨aa,aa,aa,m4,m3,hd0,aa⟩,aa,dB ?_ hz⟩,fun hs=>⟨⟨aa,aa⟩,fun hl=>⟨⟨aa,aa⟩,⟨aa,m5,m3,hd0,aa⟩,aa,dB ?_ hz⟩,fun hl=>⟨⟨aa,aa⟩,⟨aa,m6,m3,hd0,aa⟩,aa,dB ?_ hz⟩⟩⟩⟩⟩
 ·have h0:q=0:=oE.1 (jX.1 aa);rw[h0,Rat.zero_add]
 ·have h0:r=0:=oE.1 (jX.1 aa);rw[h0,Rat.add_zero]
 ·rw[hv,hs,HI hd0]
 ·rw[hv,EV hd0 hs aa]
 ·rw[hv,EH hd0 hs aa]
theorem JX (hn:n<2^41) (hm':m<2^41) (K:Nat):aQ P 58 K [.rat q n,.rat r m] [] (aJ (.rat (q*r) (n+m)) []):=by
 refine jn fun⟨hq,hr,_⟩=>?_;have hq:Sz q n:=hq;have hr:Sz r m:=hr;have d1:=q.den_nz;have d2:=r.den_nz;have a1:nl q.num.natAbs<2^38:=fR hq.1 aa;have a2:nl q.den<2^38:=fR hq.2 aa;have b1:nl r.num.natAbs<2^38:=fR hr.1 aa;have b2:nl r.den<2^38:=fR hr.2 aa;have m1:nl (q.num.natAbs*r.num.natAbs)<2^38:=fR (pq hq.1 hr.1) aa;have m3:nl (q.den*r.den)<2^38:=fR (pq hq.2 hr.2) aa;have hv:sQ (decide (q<0)!=decide (r<0)) (q.num.natAbs*r.num.natAbs) (q.den*r.den)=q*r:=by rw[<-Iv,lM,lM]
 refine b9 hT vp hm SQ rfl aV rfl 60 ah2 (fun _=>?_) K [];simp only[ag.all,ay];exact⟨⟨aa,aa,aa,aa,aa,aa,aa,aa,aa,aa,m1,m3,Nat.mul_ne_zero d1 d2,aa⟩,aa,dB hv (hq.mul hr)⟩
theorem RD (hn:n<2^41) (hm':m<2^41) (K:Nat):aQ P 82 K [.rat q n,.rat r m] [] (aJ (.int .i64 (fQ q r)) []):=by
 refine jn fun⟨hq,hr,_⟩=>?_;have hq:Sz q n:=hq;have hr:Sz r m:=hr;have a1:nl q.num.natAbs<2^38:=fR hq.1 aa;have a2:nl q.den<2^38:=fR hq.2 aa;have b1:nl r.num.natAbs<2^38:=fR hr.1 aa;have b2:nl r.den<2^38:=fR hr.2 aa;have m1:nl (q.num.natAbs*r.den)<2^38:=fR (pq hq.1 hr.2) aa;have m2:nl (r.num.natAbs*q.den)<2^38:=fR (pq hr.1 hq.2) aa;refine b9 hT vp hm alJ rfl aV rfl 60 akf (fun _=>?_) K [];simp only[ag.all,ay,bne_iff_ne,ne_eq,bne_eq_false_iff_eq];refine⟨⟨aa,aa⟩,fun hs=>⟨fun hl=>bP ?_,fun hl=>bP ?_⟩,fun hs=>⟨⟨aa,aa,aa,aa,aa,aa,aa,aa,aa,aa⟩,aa,fun hc=>bP ?_,fun hc=>bP ?_⟩⟩
 ·rw[Bg hs,if_pos (of_decide_eq_true hl)]
 ·rw[Bg hs,if_neg (of_decide_eq_false hl)]
 ·rw[oZ hs,if_pos (of_decide_eq_true hc),BF]
 ·rw[oZ hs,if_neg (of_decide_eq_false hc)]
end ops
theorem C7 {x:Int} (hy:y≠0):sQ (decide (x<0)!=decide (y<0)) x.natAbs y.natAbs=(x:Rat)/(y:Rat):=by
 have h:=HV (x:Rat) (y:Rat) (by simpa using hy);have c:∀{z:Int},decide ((z:Rat)<0)=decide (z<0):=fun {z}=>by rw[decide_eq_decide,jK,Rat.num_intCast]
 rw[c,c,Rat.num_intCast,Rat.num_intCast,Rat.den_intCast,Rat.den_intCast,Nat.mul_one,Nat.one_mul]at h;exact h
theorem IA {x:Int} (h1:-2^63<=x) (h2:x<2^63) (h3:-2^63<=y) (h4:y<2^63) (hy:y≠0):Sz ((x:Rat)/(y:Rat)) 64:=by
 rw[<-C7 hy];exact A2 aa aa aa
theorem ad8 {x:Int} (h1:-2^63<=x) (h2:x<2^63) (h3:-2^63<=y) (h4:y<2^63) (K:Nat):aQ P 128 K [.int .i64 x,.int .i64 y] [] (aJ (.tuple [.rat ((x:Rat)/(y:Rat)) 64,.int .i64 (if y=0 then 3 else 0)]) []):=by
 refine b9 hT vp hm SE rfl aV rfl 60 afV (fun _=>?_) K [];simp only[ag.all,ay,beq_iff_eq,beq_eq_false_iff_ne,ne_eq];refine⟨fun hb=>⟨aa,aa,?_,bP (by rw[if_pos hb]),trivial⟩,fun hb=>⟨⟨h1,h2⟩,⟨h3,h4⟩,⟨fR (n:=64) aa aa,fR (n:=64) aa aa,aa,aa⟩,aa,dB (C7 hb) (IA h1 h2 h3 h4 hb),bP (by rw[if_neg hb]),trivial⟩⟩;rw[hb,show((x:Rat)/((0:Int):Rat))=0 by rw[Rat.intCast_zero,Rat.div_def,Rat.inv_zero,Rat.mul_zero]];exact jB
theorem AW {n:Int} (h1:-2^63<=n) (h2:n<2^63) (K:Nat):aQ P 51 K [.int .i64 n] [] (aJ (.rat (n:Rat) (max 1 (bT n.natAbs))) []):=by
 refine b9 hT vp hm ag2 rfl aV rfl 60 Ud (fun _=>?_) K [];simp only[ag.all,ay];refine⟨⟨h1,h2⟩,aa,aa,tX DH ?_ (by rw[Rat.num_intCast]) (by rw[Rat.den_intCast,if_pos rfl])⟩;rw[decide_eq_decide,jK,Rat.num_intCast]
theorem aa3:aW P Ok 128:=by
 refine cK fun K args r hk hs _=>?_;split at hs
 ·simp only[az]at hs;subst hs;exact fun need=>ad8 need.1 need.2.1 need.2.2.1 need.2.2.2 K trivial
 ·simp at hs
theorem ahe:aW P KW 44:=by
 refine cK fun K args r hk hs _=>?_;split at hs
 ·simp only[az]at hs;subst hs;exact fun need=>GF need.1 need.2 K trivial
 ·simp at hs
theorem M3:bn P Fa:=aH ahe (aH I0 (aH aa3 bw))
theorem LF {q r:Rat} {n m:Nat} (hn:n<2^41) (hm':m<2^41) (K:Nat):aQ P 43 K [.rat q n,.rat r m] [] (aJ (.rat (q-r) (n+m+1)) []):=by
 refine b9 hT M3 hm U0 rfl aV rfl 60 Yn (fun _=>?_) K [];simp only[ag.all,ay];exact⟨⟨aa,aa,hn,hm',aa⟩,aa,dY (by rw[Rat.sub_eq_add_neg])⟩
theorem adi {x:Int} (h1:-2^63<=x) (h2:x<2^63) (h3:-2^63<=y) (h4:y<2^63) (K:Nat):aQ P 45 K [.int .i64 x,.int .i64 y] [] (aJ (.rat ((x:Rat)/(y:Rat)) 64) []):=by
 refine b9 hT M3 hm Tk rfl aV rfl 60 acH (fun _=>?_) K [];simp only[ag.all,ay];exact⟨⟨h1,h2,h3,h4,aa⟩,⟨aa,aa⟩,aa,.refl _⟩
def wR:Spec:=ck fun l=>match l with
 |[.int .i64 n]=>some (aJ (.rat (n:Rat) (max 1 (bT n.natAbs))) [-2^63<=n,n<2^63])
 |_=>none
theorem Bx:aW P wR 51:=by
 refine cK fun K args r hk hs _=>?_;split at hs
 ·simp only[az]at hs;subst hs;exact fun need=>AW need.1 need.2 K trivial
 ·simp at hs
def uA:Spec:=ck fun l=>match l with
 |[.int .i64 x,.int .i64 y]=>some (aJ (.rat ((x:Rat)/(y:Rat)) 64) [-2^63<=x,x<2^63,-2^63<=y,y<2^63])
 |_=>none
theorem yx:aW P uA 45:=by
 refine cK fun K args r hk hs _=>?_;split at hs
 ·simp only[az]at hs;subst hs;exact fun need=>adi need.1 need.2.1 need.2.2.1 need.2.2.2 K trivial
 ·simp at hs
end Go.Am.B
namespace Go.Am.B
open Go Go.Am.N AV Proofs.Tryz IntKind
theorem abC:aU 50 f50:=aS func50
theorem adE:aU 6 f6:=aS func6
theorem Xt:aU 20 f20:=aS func20
theorem al2:aU 85 f85:=aS func85
abbrev ke (n:Nat) (f:Nat->AV) (a:Int):aq:=⟨false,true,2,1,fun _=>.agg [.ak 1 n f,.int .i64 a]⟩
theorem Xh {x m:Int}:bX T [] [9] 60 f50 (aE f50) ⟨aN 0 [.int .i64 x,.int .i64 m],[],0⟩=
  some (ag.aj [m≠(0:Int)] (ag.fork (decide (x.tmod m<0)) (ag.leaf au.ret [int .i64 (i64.wrap (x.tmod m+m))]) (ag.leaf au.ret [int .i64 (x.tmod m)]))):=ah
theorem Xk {n:Nat} {f:Nat->AV}:bX T [] [] 60 f6 (aE f6) ⟨aN 0 [.ak 1 n f],[],0⟩=
  some (ag.leaf au.ret [AV.bool (decide ((↑n:Int)<=500))]):=ah
theorem Xo {n:Nat} {f:Nat->AV}:aI T [] [] 60 [2] [aE f20] ⟨aN 0 [.ak 1 n f],[],0⟩=some (.leaf .ret ([.ptr 12288 0 2 0 []],[(12288,ke n f 0)])):=ah
theorem ali {x m:Int} (h1:0<m) (h2:m<2^62) (K:Nat):aQ P 50 K [.int .i64 x,.int .i64 m] [] (aJ (.int .i64 (x%m)) []):=by
 refine b9 hT bw hm abC rfl aV rfl 60 Xh (fun _=>?_) K [];simp only[ag.all,ay,br,bC];have h3:=Int.tmod_lt_of_pos x h1;have h4:=Int.lt_tmod_of_pos x h1;have h5:=Int.emod_nonneg x (show m≠0 by omega);have h6:=Int.emod_lt_of_pos x h1;have h7:=Int.tmod_eq_emod (a:=x) (b:=m);have h8:∀{v:Int},v<0->v=x%m-((if 0<=x\/m∣x then 0 else m.natAbs:Nat):Int)->v+m=x%m:=fun {v} g1 g2=>by
  by_cases h:0<=x\/m∣x
  ·rw[if_pos h]at g2;omega
  ·rw[if_neg h]at g2;omega
 have h9:∀{v:Int},¬v<0->v=x%m-((if 0<=x\/m∣x then 0 else m.natAbs:Nat):Int)->v=x%m:=fun {v} g1 g2=>by
  by_cases h:0<=x\/m∣x
  ·rw[if_pos h]at g2;omega
  ·rw[if_neg h]at g2;omega
 refine⟨aa,fun hb=>bP ?_,fun hb=>bP (h9 hb h7)⟩;rw[wrap_i64 aa aa];exact h8 hb h7
def Eu:Spec:=ck fun l=>match l with
 |[.int .i64 x,.int .i64 m]=>some (aJ (.int .i64 (x%m)) [0<m,m<2^62])
 |_=>none
def GM:aX:=[(50,Eu)]
theorem Ol:aW P Eu 50:=by
 refine cK fun K args r hk hs _=>?_;split at hs
 ·simp only[az]at hs;subst hs;exact fun need=>ali need.1 need.2 K trivial
 ·simp at hs
theorem ah1:bn P GM:=aH Ol bw
theorem Wh {n:Nat} {m:Int}:uL T GM [14] 60 f85 (aE f85) ⟨aN 0 [.ptr 0 0 2 0 [],.int .i64 m],[(0,ke n (fun i=>.int .i64 (z i)) a)],1⟩=
  let f:=i64.wrap (a+1);let b:=0<1;let d:=agg [ak 1 n fun i=>int .i64 (z i),int .i64 a];let e:=i64.wrap (f-1);some (ag.aj [b,b] (ag.fork (decide (a>=(↑n:Int))) (ag.leaf au.ret ([int .i64 (0:Int)],some (aq.mk false true 2 1 fun x=>d))) (ag.aj [b,b] (ag.aj [b,b,(0:Int)<=e/\e.toNat<n,(0:Int)<m,m<2^62] (ag.leaf au.ret ([int .i64 (z e.toNat%m)],some (aq.mk false true 2 1 fun j=>if(j==0)=true then agg (d.kids.set 1 (bp (int .i64 f)))else d))))))):=ah
def intOf:AV->Int
 |.int _ n=>n
 |_=>0
def cQ (n:Nat) (f:Nat->AV) (a m:Int):Int:=if(n:Int)<=a then 0 else intOf (f a.toNat)%m
def aR (n:Nat) (a:Int):Int:=if(n:Int)<=a then a else a+1
structure dz (n:Nat) (f:Nat->AV) (a:Int):Prop where
 ints:∀i,f i=.int .i64 (intOf (f i))
 lo:0<=a
 hi:a<=n
 len:n<2^62
theorem dz.next {n:Nat} {f:Nat->AV} (h:dz n f a):dz n f (aR n a):=
 ⟨h.ints,by have:=h.lo;unfold aR;split<;>omega,by have:=h.hi;unfold aR;split<;>omega,h.len⟩
theorem gM {n:Nat} {f:Nat->AV} {m:Int} (hm:0<m):0<=cQ n f a m:=by
 unfold cQ;split
 ·omega
 ·exact Int.emod_nonneg _ aa
theorem gR {n:Nat} {f:Nat->AV} {m:Int} (hm:0<m):cQ n f a m<m:=by
 unfold cQ;split
 ·omega
 ·exact Int.emod_lt_of_pos _ hm
theorem pD {ρ:Nat->Option Nat} {n:Nat} {f g:Nat->AV} {b:Int} (h:f=g) (h2:a=b):dH ρ (ke n f a) (ke n g b):=by
 subst h h2;exact⟨rfl,rfl,rfl,rfl,fun i hi=>gm rfl⟩
theorem aen {k n:Nat} {m:Int} {o:aq} (ho:∀ρ,dH ρ o (ke n (fun i=>.int .i64 (z i)) a)) (h:dz n (fun i=>.int .i64 (z i)) a) (h1:0<m) (h2:m<2^62) (K:Nat):
  aQ P 85 K [.ptr k 0 2 0 [],.int .i64 m] [(k,o)] ⟨.int .i64 (cQ n (fun i=>.int .i64 (z i)) a m),[(k,ke n (fun i=>.int .i64 (z i)) (aR n a))],[]⟩:=by
 refine CA hT ah1 hm al2 rfl rfl aV ho 60 Wh (fun _=>?_) K;have h3:=h.lo;have h4:=h.hi;have h5:=h.len;simp only[ag.all,ay,br,bC];refine⟨⟨aa,aa⟩,fun hb=>⟨bP ?_,_,rfl,rfl,?_⟩,fun hb=>⟨⟨aa,aa⟩,?_⟩⟩
 ·unfold cQ;rw[if_pos aa]
 ·exact pD rfl (by unfold aR;rw[if_pos aa])
 have e1:i64.wrap (a+1)=a+1:=wrap_i64 aa aa;have e2:i64.wrap (a+1-1)=a:=by rw[wrap_i64 aa aa];omega
 rw[e1,e2];refine⟨⟨aa,aa,aa,h1,h2⟩,bP ?_,_,rfl,rfl,⟨rfl,rfl,rfl,rfl,fun i hi=>?_⟩⟩
 ·unfold cQ;rw[if_neg aa];rfl
 ·rw[show i=0 by have:i<1:=hi;omega];show gq _ (.agg [.ak 1 n (fun i=>.int .i64 (z i)),.int .i64 (a+1)]) (.agg [.ak 1 n (fun i=>.int .i64 (z i)),.int .i64 (aR n a)]);rw[show aR n a=a+1 by unfold aR;rw[if_neg aa]];exact gm rfl
def Ep (k:Nat) (pre:aC):Option (Nat×(Nat->AV)×Int):=match pre with
 |[(k',o)]=>if k==k'&&!o.row&&o.wr&&o.es==2&&o.len==1 then match o.f 0 with
  |.agg [.ak 1 n f,.int .i64 a]=>some (n,f,a)
  |_=>none
  else none
 |_=>none
def jL (g:Nat->(Nat->AV)->Int->List AV->Option (AV×Int×List Prop)):Spec:=fun _ args pre=>match args with
 |.ptr k 0 2 0 []::l=>match Ep k pre with
  |some (n,f,a)=>match g n f a l with
   |some (v,b,q)=>some ⟨v,[(k,ke n f b)],dz n f a::q⟩
   |none=>none
  |none=>none
 |_=>none
theorem Ze {k:Nat} {pre:aC} {n:Nat} {f:Nat->AV} (h:Ep k pre=some (n,f,a)):∃o,pre=[(k,o)]/\∀ρ,dH ρ o (ke n f a):=by
 unfold Ep at h;split at h
 ·rename_i k' o;split at h
  ·rename_i hc;simp only[Bool.and_eq_true,beq_iff_eq,Bool.not_eq_true']at hc;obtain⟨⟨⟨⟨rfl,h2⟩,h3⟩,h4⟩,h5⟩:=hc;split at h
   ·rename_i n' f' a' hf;simp only[az,Prod.mk.injEq]at h;obtain⟨rfl,rfl,rfl⟩:=h;refine⟨o,rfl,fun ρ=>?_⟩;obtain⟨row,wr,es,len,g⟩:=o;simp only at h2 h3 h4 h5 hf;subst h2 h3 h4 h5;refine ji rfl fun i hi=>?_;rw[show i=0 by omega,hf];exact gm rfl
   ·simp at h
  ·simp at h
 ·simp at h
theorem vX {fid:FuncId} {g:Nat->(Nat->AV)->Int->List AV->Option (AV×Int×List Prop)}
  (h:∀{k n:Nat} {z:Nat->Int} {a:Int} {l:List AV} {v:AV} {b:Int} {q:List Prop} {o:aq} (K:Nat),g n (fun i=>.int .i64 (z i)) a l=some (v,b,q)->(∀ρ,dH ρ o (ke n (fun i=>.int .i64 (z i)) a))->dz n (fun i=>.int .i64 (z i)) a->ay q->aQ P fid K (.ptr k 0 2 0 []::l) [(k,o)] ⟨v,[(k,ke n (fun i=>.int .i64 (z i)) b)],[]⟩):aW P (jL g) fid:=by
 intro K args pre r hs;unfold jL at hs;split at hs
 ·rename_i k l;split at hs
  ·rename_i n f a hd;split at hs
   ·rename_i v b q hv;simp only[az]at hs;subst hs;obtain⟨o,rfl,ho⟩:=Ze hd;intro need;obtain⟨hd,hq⟩:=(dS (a:=[dz n f a]) (b:=q)).1 need;have hd:dz n f a:=hd;obtain⟨z,rfl⟩:∃z:Nat->Int,f=fun i=>.int .i64 (z i):=⟨fun i=>intOf (f i),funext fun i=>hd.ints i⟩
    exact h K hv ho hd hq trivial
   ·simp at hs
  ·simp at hs
 ·simp at hs
def uT (n:Nat) (f:Nat->AV) (a:Int) (l:List AV):Option (AV×Int×List Prop):=match l with
 |[.int .i64 m]=>some (.int .i64 (cQ n f a m),aR n a,[0<m,m<2^62])
 |_=>none
theorem Di:aW P (jL uT) 85:=by
 refine vX fun {k n z a l v b q o} K hg ho hd hq=>?_;unfold uT at hg;split at hg
 ·simp only[az,Prod.mk.injEq]at hg;obtain⟨rfl,rfl,rfl⟩:=hg;exact aen ho hd hq.1 hq.2 K
 ·simp at hg
theorem aaT:aU 157 f157:=aS func157
theorem ais:aU 84 f84:=aS func84
def GN:aX:=[(85,jL uT),(45,uA),(51,wR)]
def gG (n:Nat) (f:Nat->AV) (a:Int):Rat:=if cQ n f (aR n a) 4=3 then((cQ n f a 13-6:Int):Rat)/((1+cQ n f (aR n (aR n a)) 4:Int):Rat)else((cQ n f a 13-6:Int):Rat)
def gZ (n:Nat) (f:Nat->AV) (a:Int):Int:=if cQ n f (aR n a) 4=3 then aR n (aR n (aR n a))else aR n (aR n a)
def EL (n:Nat) (f:Nat->AV) (a:Int) (l:List AV):Option (AV×Int×List Prop):=match l with
 |[]=>some (.rat (gG n f a) 64,gZ n f a,[])
 |_=>none
def GP:aX:=[(157,jL EL)]
def jv (n:Nat) (f:Nat->AV) (a:Int):Int:=gZ n f (gZ n f (gZ n f a))
def Gi (n:Nat) (f:Nat->AV) (a:Int) (l:List AV):Option (AV×Int×List Prop):=match l with
 |[]=>some (.agg [.rat (gG n f a) 64,.rat (gG n f (gZ n f a)) 64,.rat (gG n f (gZ n f (gZ n f a))) 64],jv n f a,[])
 |_=>none
theorem ak9:bn P GN:=aH Di (aH yx (aH Bx bw))
theorem afo {n:Nat}:uL T GN [8] 60 f157 (aE f157) ⟨aN 0 [.ptr 0 0 2 0 []],[(0,ke n (fun i=>.int .i64 (z i)) a)],1⟩=
  let h:=(2:Int)^62;let j:=ak 1 n fun i=>int .i64 (z i);let f:=aR n (aR n a);let e:=[(0:Nat)<1];let d:=(2:Int)^63;let b:=i64.wrap (cQ n (fun i=>int .i64 (z i)) a (13:Int)-6);let g:=i64.wrap ((1:Int)+cQ n (fun i=>int .i64 (z i)) f (4:Int));some (ag.aj [dz n (fun i=>int .i64 (z i)) a,(0:Int)<13,(13:Int)<h] (ag.aj [dz n (fun i=>int .i64 (z i)) (aR n a),(0:Int)<4,(4:Int)<h] (ag.fork (cQ n (fun i=>int .i64 (z i)) (aR n a) (4:Int)==3) (ag.aj (dz n (fun i=>int .i64 (z i)) f::((0:Int)<4)::((4:Int)<h)::(-d<=b)::(b<d)::(-d<=g)::(g<d)::e) (ag.aj e (ag.leaf au.ret ([rat ((↑b:Rat)/(↑g:Rat)) 64],some (aq.mk false true 2 1 fun x=>agg [j,int .i64 (aR n f)]))))) (ag.aj ((-d<=b)::(b<d)::e) (ag.aj e (ag.leaf au.ret ([rat (↑b:Rat) (max 1 (bT b.natAbs))],some (aq.mk false true 2 1 fun x=>agg [j,int .i64 f])))))))):=ah
theorem adT {n:Nat}:uL T GP [] 60 f84 (aE f84) ⟨aN 0 [.ptr 0 0 2 0 []],[(0,ke n (fun i=>.int .i64 (z i)) a)],1⟩=
  let d:=gZ n (fun i=>int .i64 (z i)) a;let b:=gZ n (fun i=>int .i64 (z i)) d;some (ag.aj [dz n (fun i=>int .i64 (z i)) a,dz n (fun i=>int .i64 (z i)) d,dz n (fun i=>int .i64 (z i)) b,(0:Nat)<1] (ag.aj [(0:Nat)<1] (ag.leaf au.ret ([agg [rat (gG n (fun i=>int .i64 (z i)) a) 64,rat (gG n (fun i=>int .i64 (z i)) d) 64,rat (gG n (fun i=>int .i64 (z i)) b) 64]],some (aq.mk false true 2 1 fun x=>agg [ak 1 n fun i=>int .i64 (z i),int .i64 (gZ n (fun i=>int .i64 (z i)) b)]))))):=ah
theorem dz.number {n:Nat} {f:Nat->AV} (h:dz n f a):dz n f (gZ n f a):=by
 unfold gZ;split
 ·exact h.next.next.next
 ·exact h.next.next
theorem dz.AY {n:Nat} {f:Nat->AV} (h:dz n f a):dz n f (jv n f a):=h.number.number.number
theorem Oz {x y:Int} (h1:-2^63<=x) (h2:x<2^63):Sz (x:Rat) 64:=DH.more (by
 have:bT x.natAbs<=64:=iS.2 aa;omega)
theorem ale {k n:Nat} {o:aq} (ho:∀ρ,dH ρ o (ke n (fun i=>.int .i64 (z i)) a)) (h:dz n (fun i=>.int .i64 (z i)) a) (K:Nat):
  aQ P 157 K [.ptr k 0 2 0 []] [(k,o)] ⟨.rat (gG n (fun i=>.int .i64 (z i)) a) 64,[(k,ke n (fun i=>.int .i64 (z i)) (gZ n (fun i=>.int .i64 (z i)) a))],[]⟩:=by
 refine CA hT ak9 hm aaT rfl rfl aV ho 60 afo (fun _=>?_) K;have a1:=gM (n:=n) (f:=fun i=>.int .i64 (z i)) (a:=a) (m:=13) aa;have a2:=gR (n:=n) (f:=fun i=>.int .i64 (z i)) (a:=a) (m:=13) aa;have b1:=gM (n:=n) (f:=fun i=>.int .i64 (z i)) (a:=aR n (aR n a)) (m:=4) aa;have b2:=gR (n:=n) (f:=fun i=>.int .i64 (z i)) (a:=aR n (aR n a)) (m:=4) aa;unfold gG gZ;generalize cQ n (fun i=>.int .i64 (z i)) a 13=x at*;generalize cQ n (fun i=>.int .i64 (z i)) (aR n (aR n a)) 4=y at*;generalize cQ n (fun i=>.int .i64 (z i)) (aR n a) 4=w at*;have e1:i64.wrap (x-6)=x-6:=wrap_i64 aa aa;have e2:i64.wrap (1+y)=1+y:=wrap_i64 aa aa;rw[e1,e2];simp only[ag.all,ay,beq_iff_eq,beq_eq_false_iff_ne,ne_eq];refine⟨⟨h,aa,aa⟩,⟨h.next,aa,aa⟩,fun hw=>⟨⟨h.next.next,aa,aa,aa,aa,aa,aa,aa⟩,aa,dY (by rw[if_pos hw]),_,rfl,rfl,pD rfl (by rw[if_pos hw])⟩,fun hw=>⟨⟨aa,aa,aa⟩,aa,?_,_,rfl,rfl,pD rfl (by rw[if_neg hw])⟩⟩;rw[if_neg hw];exact dB rfl (Oz (y:=0) aa aa)
theorem Yd:aW P (jL EL) 157:=by
 refine vX fun {k n z a l v b q o} K hg ho hd hq=>?_;unfold EL at hg;split at hg
 ·simp only[az,Prod.mk.injEq]at hg;obtain⟨rfl,rfl,rfl⟩:=hg;exact ale ho hd K
 ·simp at hg
theorem ach:bn P GP:=aH Yd bw
theorem aiu:aW P (jL Gi) 84:=by
 refine vX fun {k n z a l v b q o} K hg ho hd hq=>?_;unfold Gi at hg;split at hg
 ·simp only[az,Prod.mk.injEq]at hg;obtain⟨rfl,rfl,rfl⟩:=hg;refine CA hT ach hm ais rfl rfl aV ho 60 adT (fun _=>?_) K;simp only[ag.all,ay];exact⟨⟨hd,hd.number,hd.number.number,aa⟩,aa,.refl _,_,rfl,rfl,pD rfl rfl⟩
 ·simp at hg
def LS:Spec:=ck fun l=>match l with
 |[.ak 1 n _]=>some (aJ (.bool (decide ((n:Int)<=500))) [])
 |_=>none
theorem VI:aW P LS 6:=by
 refine cK fun K args r hk hs _=>?_;split at hs
 ·simp only[az]at hs;subst hs;refine b9 hT bw hm adE rfl aV rfl 60 Xk (fun _=>?_) K [];exact .refl _
 ·simp at hs
def Ot:Spec:=o6 fun K l=>match l with
 |[.ak 1 n f]=>some ⟨.ptr K 0 2 0 [],[(K,ke n f 0)],[]⟩
 |_=>none
theorem TU:aW P Ot 20:=by
 refine sA fun K args r hk hs=>?_;split at hs
 ·simp only[az]at hs;subst hs;exact ab6 hT bw hm Xt hk rfl aV ah (q:=[]) 60 Xo (.inr rfl) (fun ρ=>pD rfl rfl) K
 ·simp at hs
theorem Yf:aU 59 f59:=aS func59
def ah8:aX:=[(50,Eu),(45,uA)]
theorem amK {d:Int}:bX T ah8 [] 60 f59 (aE f59) ⟨aN 0 [.int .i64 d],[],0⟩=
  some (ag.aj [(17:Int)≠(0:Int),(0:Int)<12,(12:Int)<2^62] (ag.aj [(0:Int)<i64.wrap (i64.wrap ((1:Int)+i64.wrap (d.tdiv (17:Int))%(12:Int))+1),i64.wrap (i64.wrap ((1:Int)+i64.wrap (d.tdiv (17:Int))%(12:Int))+1)<2^62,-(2:Int)^63<=d%i64.wrap (i64.wrap ((1:Int)+i64.wrap (d.tdiv (17:Int))%(12:Int))+1),d%i64.wrap (i64.wrap ((1:Int)+i64.wrap (d.tdiv (17:Int))%(12:Int))+1)<2^63,-(2:Int)^63<=i64.wrap ((1:Int)+i64.wrap (d.tdiv (17:Int))%(12:Int)),i64.wrap ((1:Int)+i64.wrap (d.tdiv (17:Int))%(12:Int))<2^63,(0:Nat)<1] (ag.aj [(0:Nat)<1] (ag.leaf au.ret [rat ((↑(d%i64.wrap (i64.wrap ((1:Int)+i64.wrap (d.tdiv (17:Int))%(12:Int))+1)):Rat)/(↑(i64.wrap ((1:Int)+i64.wrap (d.tdiv (17:Int))%(12:Int))):Rat)) 64])))):=ah
def qb (d:Int):Int:=1+i64.wrap (d.tdiv 17)%12
def ic (d:Int):Rat:=((d%(qb d+1):Int):Rat)/((qb d:Int):Rat)
def MI:Spec:=ck fun l=>match l with
 |[.int .i64 d]=>some (aJ (.rat (ic d) 64) [])
 |_=>none
theorem aaQ:aW P MI 59:=by
 refine cK fun K args r hk hs _=>?_;split at hs
 ·rename_i d;simp only[az]at hs;subst hs;refine b9 hT (aH Ol (aH yx bw)) hm Yf rfl aV rfl 60 amK (fun _=>?_) K [];unfold ic qb;generalize i64.wrap (d.tdiv 17)=w at*;have w1:=Int.emod_nonneg w (show(12:Int)≠0 by omega);have w2:=Int.emod_lt_of_pos w (show(0:Int)<12 by omega);generalize w%12=x at*;have e1:i64.wrap (1+x)=1+x:=wrap_i64 aa aa;have e2:i64.wrap (1+x+1)=1+x+1:=wrap_i64 aa aa;rw[e1,e2];have v1:=Int.emod_nonneg d (show 1+x+1≠0 by omega);have v2:=Int.emod_lt_of_pos d (show 0<1+x+1 by omega);generalize d%(1+x+1)=y at*;simp only[ag.all,ay];exact⟨⟨aa,aa,aa⟩,⟨aa,aa,aa,aa,aa,aa,aa⟩,aa,.refl _⟩
 ·simp at hs
@[ext] structure V3 where
 x:Rat
 y:Rat
 z:Rat
structure Pl where
 n:V3
 d:Rat
abbrev rA (q:Rat) (n:Nat):AV:=.rat q n
abbrev vA (v:V3) (n:Nat):AV:=.agg [.rat v.x n,.rat v.y n,.rat v.z n]
abbrev bH (p:Pl) (n:Nat):AV:=.agg [vA p.n n,.rat p.d n]
theorem cm {q r:Rat} {n k:Nat} (h:q=r) (hk:n<=k):bV (.rat q n) (.rat r k):=h▸dU hk
theorem Ak {u v:V3} {n k:Nat} (h:u=v) (hk:n<=k):bV (vA u n) (vA v k):=
 h▸cM ⟨cm rfl hk,cm rfl hk,cm rfl hk,trivial⟩
structure Kind (α:Type) where
 read:AV->Option (α×List Prop)
 make:α->AV
 ok:∀{v:AV} {a:α} {q:List Prop},read v=some (a,q)->ay q->bV v (make a)
def jS:AV->Option (Rat×Nat)
 |.rat q n=>some (q,n)
 |.agg [.bool false,.mag 0,.mag 0]=>some (0,1)
 |_=>none
theorem lz {v:AV} {a:Rat×Nat} (h:jS v=some a):bV v (rA a.1 a.2):=by
 unfold jS at h;split at h
 ·simp only[az]at h;subst h;exact .refl _
 ·simp only[az]at h;subst h;exact jB
 ·simp at h
def E9:AV->Option ((V3×Nat)×List Prop)
 |.agg [x,y,z]=>match jS x,jS y,jS z with
  |some (x,a),some (y,b),some (z,c)=>some ((⟨x,y,z⟩,a),[b<=a,c<=a])
  |_,_,_=>none
 |_=>none
theorem ahD {v:AV} {a:V3×Nat} {q:List Prop} (h:E9 v=some (a,q)) (hq:ay q):bV v (vA a.1 a.2):=by
 unfold E9 at h;split at h
 ·split at h
  ·rename_i h1 h2 h3;simp only[az,Prod.mk.injEq]at h;obtain⟨rfl,rfl⟩:=h;exact cM ⟨lz h1,(lz h2).trans (cm rfl hq.1),(lz h3).trans (cm rfl hq.2),trivial⟩
  ·simp at h
 ·simp at h
def AF:AV->Option ((Pl×Nat)×List Prop)
 |.agg [v,d]=>match E9 v,jS d with
  |some ((v,a),q),some (d,b)=>some ((⟨v,d⟩,max a b),q)
  |_,_=>none
 |_=>none
theorem acp {v:AV} {a:Pl×Nat} {q:List Prop} (h:AF v=some (a,q)) (hq:ay q):bV v (bH a.1 a.2):=by
 unfold AF at h;split at h
 ·split at h
  ·rename_i h1 h2;simp only[az,Prod.mk.injEq]at h;obtain⟨rfl,rfl⟩:=h;exact cM ⟨(ahD h1 hq).trans (Ak rfl (by simp only;omega)),(lz h2).trans (cm rfl (by simp only;omega)),trivial⟩
  ·simp at h
 ·simp at h
def Gp (v:AV):Option ((Rat×Nat)×List Prop):=match jS v with
 |some a=>some (a,[])
 |none=>none
theorem UY {v:AV} {a:Rat×Nat} {q:List Prop} (h:Gp v=some (a,q)) (_:ay q):bV v (rA a.1 a.2):=by
 unfold Gp at h;split at h
 ·rename_i h1;simp only[az,Prod.mk.injEq]at h;obtain⟨rfl,rfl⟩:=h;exact lz h1
 ·simp at h
def Dx:AV->Option (Int×List Prop)
 |.int .i64 n=>some (n,[])
 |_=>none
theorem ala {v:AV} {q:List Prop} (h:Dx v=some (a,q)) (_:ay q):bV v (.int .i64 a):=by
 unfold Dx at h;split at h
 ·simp only[az,Prod.mk.injEq]at h;obtain⟨rfl,rfl⟩:=h;exact .refl _
 ·simp at h
def kR:Kind (Rat×Nat):=⟨Gp,fun a=>rA a.1 a.2,UY⟩
def kPl:Kind (Pl×Nat):=⟨AF,fun a=>bH a.1 a.2,acp⟩
def kI:Kind Int:=⟨Dx,fun a=>.int .i64 a,ala⟩
section specs
variable {α β γ δ:Type} {f:FuncId}
def DV (k:Kind α) (g:α->AV) (need:α->List Prop):Spec:=ck fun l=>match l with
 |[x]=>match k.read x with
  |some (a,p)=>some (aJ (g a) (p++need a))
  |none=>none
 |_=>none
theorem J1 {k:Kind α} {g:α->AV} {need:α->List Prop} (h:∀a K,ay (need a)->aQ P f K [k.make a] [] (aJ (g a) [])):aW P (DV k g need) f:=by
 refine cK fun K args r hk hs _=>?_;split at hs
 ·split at hs
  ·rename_i h1;simp only[az]at hs;subst hs;intro hn;obtain⟨n1,hn⟩:=dS.1 hn;exact gW (h _ K hn) hk ⟨k.ok h1 n1,trivial⟩ [] trivial
  ·simp at hs
 ·simp at hs
def j4 (k:Kind α) (k2:Kind β) (g:α->β->AV) (need:α->β->List Prop):Spec:=ck fun l=>match l with
 |[x,y]=>match k.read x,k2.read y with
  |some (a,p),some (b,q)=>some (aJ (g a b) (p++(q++need a b)))
  |_,_=>none
 |_=>none
theorem kS {k:Kind α} {k2:Kind β} {g:α->β->AV} {need:α->β->List Prop} (h:∀a b K,ay (need a b)->aQ P f K [k.make a,k2.make b] [] (aJ (g a b) [])):aW P (j4 k k2 g need) f:=by
 refine cK fun K args r hk hs _=>?_;split at hs
 ·split at hs
  ·rename_i h1 h2;simp only[az]at hs;subst hs;intro hn;obtain⟨n1,hn⟩:=dS.1 hn;obtain⟨n2,hn⟩:=dS.1 hn;exact gW (h _ _ K hn) hk ⟨k.ok h1 n1,k2.ok h2 n2,trivial⟩ [] trivial
  ·simp at hs
 ·simp at hs
end specs
def s6 (a b:Rat×Nat):List Prop:=[a.2<2^42,b.2<2^42]
def q9 (a b:Rat×Nat):List Prop:=[a.2<2^41,b.2<2^41]
def kj (a b:Rat×Nat):AV:=rA (a.1+b.1) (a.2+b.2+1)
def AH (a b:Rat×Nat):AV:=rA (a.1-b.1) (a.2+b.2+1)
def BY (a b:Rat×Nat):AV:=rA (a.1*b.1) (a.2+b.2)
def zP (a b:Rat×Nat):AV:=.tuple [rA (a.1/b.1) (a.2+b.2),.int .i64 (if b.1=0 then 3 else 0)]
def aiO (a b:Rat×Nat):AV:=rA (nH a.1 b.1) (max a.2 b.2)
def alh (a b:Rat×Nat):AV:=rA (nN a.1 b.1) (max a.2 b.2)
def Cn (a b:Rat×Nat):AV:=.int .i64 (fQ a.1 b.1)
def C1 (a b:Rat×Nat):AV:=.bool (decide (a.1=b.1))
def B5 (a:Rat×Nat):AV:=.int .i64 (fy a.1)
abbrev ET:FuncId×Spec:=(221,Mu)
def iZ:aX:=[(106,j4 kR kR kj s6),(163,j4 kR kR AH s6),(173,j4 kR kR BY s6),(63,j4 kR kR C1 s6),(108,j4 kR kR Cn s6),(79,DV kR B5 fun a=>[a.2<2^42]),ET]
def l6:aX:=[(44,j4 kR kR kj q9),(43,j4 kR kR AH q9),(58,j4 kR kR BY q9),(83,j4 kR kR C1 q9),(82,j4 kR kR Cn q9),(156,DV kR B5 fun a=>[a.2<2^41]),(51,wR)]
theorem aaC:aW P ET.2 ET.1:=ZO
theorem jA:bn P iZ:=aH (kS fun _ _ K hn=>KI hn.1 hn.2 K) (aH (kS fun _ _ K hn=>Qf hn.1 hn.2 K) (aH (kS fun _ _ K hn=>Pa hn.1 hn.2 K)
 (aH (kS fun _ _ K hn=>RZ (Nat.lt_trans hn.1 aa) (Nat.lt_trans hn.2 aa) K []) (aH (kS fun _ _ K hn=>Ek hn.1 hn.2 K []) (aH (J1 fun _ K hn=>D7 (Nat.lt_trans hn aa) K []) (aH aaC bw))))))
theorem ng:bn P l6:=aH (kS fun _ _ K hn=>GF hn.1 hn.2 K) (aH (kS fun _ _ K hn=>LF hn.1 hn.2 K) (aH (kS fun _ _ K hn=>JX hn.1 hn.2 K)
 (aH (kS fun _ _ K hn=>JH (Nat.lt_trans hn.1 aa) (Nat.lt_trans hn.2 aa) K []) (aH (kS fun _ _ K hn=>RD hn.1 hn.2 K) (aH (J1 fun _ K _=>Ee K []) (aH Bx bw))))))
end Go.Am.B
namespace Go.Am.B
open Go Go.Am.N AV Proofs.Tryz IntKind
structure Kd (α:Type) where
 read:AV->Option α
 make:α->AV
 ok:∀{v:AV} {a:α},read v=some a->bV v (make a)
def G6:AV->Option (V3×Nat)
 |.agg [x,y,z]=>match jS x,jS y,jS z with
  |some (x,a),some (y,b),some (z,c)=>some (⟨x,y,z⟩,max a (max b c))
  |_,_,_=>none
 |_=>none
theorem adU {v:AV} {a:V3×Nat} (h:G6 v=some a):bV v (vA a.1 a.2):=by
 unfold G6 at h;split at h
 ·split at h
  ·rename_i h1 h2 h3;simp only[az]at h;subst h;exact cM ⟨(lz h1).trans (cm rfl (by simp only;omega)),(lz h2).trans (cm rfl (by simp only;omega)),(lz h3).trans (cm rfl (by simp only;omega)),trivial⟩
  ·simp at h
 ·simp at h
def dR:Kd (Rat×Nat):=⟨jS,fun a=>rA a.1 a.2,lz⟩
def dV:Kd (V3×Nat):=⟨G6,fun a=>vA a.1 a.2,adU⟩
section specs
variable {α β γ δ:Type} {f:FuncId}
def GO (k:Kd α) (g:α->AV) (B:α->Bool):Spec:=ck fun l=>match l with
 |[x]=>match k.read x with
  |some a=>match B a with
   |true=>some (aJ (g a) [])
   |false=>none
  |_=>none
 |_=>none
theorem ON {k:Kd α} {g:α->AV} {B:α->Bool} (h:∀a K,B a=true->aQ P f K [k.make a] [] (aJ (g a) [])):aW P (GO k g B) f:=by
 refine cK fun K args r hk hs _=>?_;split at hs
 ·split at hs
  ·rename_i h1;split at hs
   ·rename_i hB;simp only[az]at hs;subst hs;exact gW (h _ K hB) hk ⟨k.ok h1,trivial⟩ []
   ·simp at hs
  ·simp at hs
 ·simp at hs
def lG (k:Kd α) (k2:Kd β) (g:α->β->AV) (B:α->β->Bool):Spec:=ck fun l=>match l with
 |[x,y]=>match k.read x,k2.read y with
  |some a,some b=>match B a b with
   |true=>some (aJ (g a b) [])
   |false=>none
  |_,_=>none
 |_=>none
theorem l5 {k:Kd α} {k2:Kd β} {g:α->β->AV} {B:α->β->Bool} (h:∀a b K,B a b=true->aQ P f K [k.make a,k2.make b] [] (aJ (g a b) [])):aW P (lG k k2 g B) f:=by
 refine cK fun K args r hk hs _=>?_;split at hs
 ·split at hs
  ·rename_i h1 h2;split at hs
   ·rename_i hB;simp only[az]at hs;subst hs;exact gW (h _ _ K hB) hk ⟨k.ok h1,k2.ok h2,trivial⟩ []
   ·simp at hs
  ·simp at hs
 ·simp at hs
end specs
def b1 {α:Type} (e:Nat) (a:α×Nat):Bool:=Nat.blt a.2 (2^e)
def b2 {α β:Type} (e:Nat) (a:α×Nat) (b:β×Nat):Bool:=Nat.blt a.2 (2^e)&&Nat.blt b.2 (2^e)
def b3 {α β γ:Type} (e:Nat) (a:α×Nat) (b:β×Nat) (c:γ×Nat):Bool:=Nat.blt a.2 (2^e)&&(Nat.blt b.2 (2^e)&&Nat.blt c.2 (2^e))
theorem J4 {a b:Nat}:Nat.blt a b=true↔a<b:=by rw[Nat.blt_eq]
theorem Sy {α:Type} {e:Nat} {a:α×Nat} (h:b1 e a=true):a.2<2^e:=J4.1 h
theorem gF {α β:Type} {e:Nat} {a:α×Nat} {b:β×Nat} (h:b2 e a b=true):a.2<2^e/\b.2<2^e:=by
 simp only[b2,Bool.and_eq_true,J4]at h;exact h
def sZ:Spec:=ck fun l=>match l with
 |[.int .i64 n]=>match decide (-2^63<=n/\n<2^63)with
  |true=>some (aJ (.rat (n:Rat) (max 1 (bT n.natAbs))) [])
  |false=>none
 |_=>none
abbrev FM:FuncId×Spec:=(221,sZ)
abbrev Fq:FuncId×Spec:=(145,lG dR dR aiO (b2 42))
abbrev Et:FuncId×Spec:=(146,lG dR dR alh (b2 42))
def qV:aX:=[(106,lG dR dR kj (b2 42)),(163,lG dR dR AH (b2 42)),(173,lG dR dR BY (b2 42)),(63,lG dR dR C1 (b2 42)),(108,lG dR dR Cn (b2 42)),(79,GO dR B5 (b1 42)),FM,(174,lG dR dR zP (b2 42)),Fq,Et]
def oT:aX:=[(44,lG dR dR kj (b2 41)),(43,lG dR dR AH (b2 41)),(58,lG dR dR BY (b2 41)),(83,lG dR dR C1 (b2 41)),(82,lG dR dR Cn (b2 41)),(156,GO dR B5 (b1 41)),(51,sZ)]
theorem DS {n:Nat} (h:n<2^42):n<2^44:=Nat.lt_trans h aa
theorem J8 {n:Nat} (h:n<2^41):n<2^44:=Nat.lt_trans h aa
theorem zf {f:FuncId} (h:∀{n:Int},-2^63<=n->n<2^63->∀K,aQ P f K [.int .i64 n] [] (aJ (.rat (n:Rat) (max 1 (bT n.natAbs))) [])):aW P sZ f:=by
 refine cK fun K args r hk hs _=>?_;split at hs
 ·split at hs
  ·rename_i hc;simp only[az]at hs;subst hs;have:=of_decide_eq_true hc;exact h this.1 this.2 K
  ·simp at hs
 ·simp at hs
theorem aiU:aW P FM.2 FM.1:=zf EG
theorem Yt:aW P Fq.2 Fq.1:=l5 fun _ _ K hn=>ajl (gF hn).1 (gF hn).2 K
theorem aad:aW P Et.2 Et.1:=l5 fun _ _ K hn=>Ti (gF hn).1 (gF hn).2 K
theorem tV:bn P qV:=aH (l5 fun _ _ K hn=>KI (gF hn).1 (gF hn).2 K) (aH (l5 fun _ _ K hn=>Qf (gF hn).1 (gF hn).2 K) (aH (l5 fun _ _ K hn=>Pa (gF hn).1 (gF hn).2 K)
 (aH (l5 fun _ _ K hn=>RZ (DS (gF hn).1) (DS (gF hn).2) K []) (aH (l5 fun _ _ K hn=>Ek (gF hn).1 (gF hn).2 K []) (aH (ON fun _ K hn=>D7 (DS (Sy hn)) K []) (aH aiU
 (aH (l5 fun _ _ K hn=>EK (gF hn).1 (gF hn).2 K) (aH Yt (aH aad bw)))))))))
theorem qv:bn P oT:=aH (l5 fun _ _ K hn=>GF (gF hn).1 (gF hn).2 K) (aH (l5 fun _ _ K hn=>LF (gF hn).1 (gF hn).2 K) (aH (l5 fun _ _ K hn=>JX (gF hn).1 (gF hn).2 K)
 (aH (l5 fun _ _ K hn=>JH (J8 (gF hn).1) (J8 (gF hn).2) K []) (aH (l5 fun _ _ K hn=>RD (gF hn).1 (gF hn).2 K) (aH (ON fun _ K _=>Ee K []) (aH (zf AW) bw))))))
end Go.Am.B
namespace Go.Am.B
open Go Go.Am.N AV Proofs.Tryz IntKind
theorem ajz:aU 225 f225:=aS func225
theorem aiV:aU 182 f182:=aS func182
theorem UC {q r:Rat} {n m:Nat}:bX T tU [9] 60 f225 (aE f225) ⟨aN 0 [.rat q n,.rat r m],[],0⟩=
  some (ag.aj [(0:Nat)<1] (ag.fork ((↑(nl r.num.natAbs):Int)==0) (ag.aj [(0:Nat)<1] (ag.aj [(0:Nat)<1] (ag.leaf au.ret [agg [AV.bool false,mag 0,mag 0],int .i64 (3:Int)]))) (ag.aj [(0:Nat)<1,(0:Nat)<1,(0:Nat)<1,(0:Nat)<1,nl q.num.natAbs<2^39,nl r.den<2^39,(0:Nat)<1,(0:Nat)<1,nl q.den<2^39,nl r.num.natAbs<2^39,nl (q.num.natAbs*r.den)<2^38,nl (q.den*r.num.natAbs)<2^38,q.den*r.num.natAbs≠0,(0:Nat)<1] (ag.aj [(0:Nat)<1] (ag.leaf au.ret [rat (sQ (decide (q<0)!=decide (r<0)) (q.num.natAbs*r.den) (q.den*r.num.natAbs)) (dj (sQ (decide (q<0)!=decide (r<0)) (q.num.natAbs*r.den) (q.den*r.num.natAbs))),int .i64 (0:Int)]))))):=ah
theorem RU {q r:Rat} {n m:Nat} (hn:n<2^41) (hm':m<2^41) (K:Nat):aQ P 225 K [.rat q n,.rat r m] [] (aJ (.tuple [.rat (q/r) (n+m),.int .i64 (if r=0 then 3 else 0)]) []):=by
 refine jn fun⟨hq,hr,_⟩=>?_;have hq:Sz q n:=hq;have hr:Sz r m:=hr;have d1:=q.den_nz;have d2:=r.den_nz;have a1:nl q.num.natAbs<2^38:=fR hq.1 aa;have a2:nl q.den<2^38:=fR hq.2 aa;have b1:nl r.num.natAbs<2^38:=fR hr.1 aa;have b2:nl r.den<2^38:=fR hr.2 aa;have m1:nl (q.num.natAbs*r.den)<2^38:=fR (pq hq.1 hr.2) aa;have m3:nl (q.den*r.num.natAbs)<2^38:=fR (pq hq.2 hr.1) aa;refine b9 hT vp hm ajz rfl aV rfl 60 UC (fun _=>?_) K [];have key:((nl r.num.natAbs:Int)==0)=decide (r=0):=by
  by_cases h:r=0
  ·subst h;rfl
  ·have h1:r.num.natAbs≠0:=fun e=>h (oE.1 e);have:=g8.2 h1;simp only[h,decide_false,beq_eq_false_iff_ne];omega
 rw[key];simp only[ag.all,ay,br,bC];refine⟨aa,fun h0=>?_,fun h0=>?_⟩
 ·refine⟨aa,aa,?_,bP (by rw[if_pos h0]),trivial⟩;have e:q/r=0:=by rw[h0,Rat.div_def,Rat.inv_zero,Rat.mul_zero]
  obtain⟨k,hk⟩:∃k,n+m=k+1:=⟨n+m-1,by have:=hq.pos;omega⟩
  rw[e,hk]
  first|exact jB|exact dU aa
 ·have hr0:r.num.natAbs≠0:=fun h=>h0 (oE.1 h);have hv:=HV q r h0
  (repeat' with_reducible refine And.intro ?_ ?_)
  all_goals first|omega|exact m1|exact m3|exact Nat.mul_ne_zero d1 hr0|skip
  exact⟨dB hv (hq.div hr),bP (by rw[if_neg h0]),trivial⟩
def Qt:aX:=[(225,j4 kR kR zP q9)]
theorem adM:bn P Qt:=aH (kS fun _ _ K hn=>RU hn.1 hn.2 K) bw
theorem Zf {q r:Rat} {n m:Nat}:bX T Qt [] 60 f182 (aE f182) ⟨aN 0 [.rat q n,.rat r m],[],0⟩=
  some (ag.aj [(0:Nat)<1,(0:Nat)<1,n<2^41,m<2^41,(0:Nat)<1] (ag.aj [(0:Nat)<1,(0:Nat)<1] (ag.aj [(0:Nat)<1] (ag.leaf au.ret [rat (q/r) (n+m)])))):=ah
theorem VY {q r:Rat} {n m:Nat} (hn:n<2^41) (hm':m<2^41) (K:Nat):aQ P 182 K [.rat q n,.rat r m] [] (aJ (.rat (q/r) (n+m)) []):=by
 refine b9 hT adM hm aiV rfl aV rfl 60 Zf (fun _=>?_) K [];simp only[ag.all,ay]
 (repeat' with_reducible refine And.intro ?_ ?_)
 all_goals first|omega|exact bV.refl _
def acD (a b:Rat×Nat):AV:=rA (a.1/b.1) (a.2+b.2)
def bU (n:Nat) (f:Nat->Rat):Rat:=match n with
 |0=>0
 |n+1=>bU n f+f n
theorem oz {f g:Nat->Rat}:∀{n:Nat},(∀i,i<n->f i=g i)->bU n f=bU n g
 |0,_=>rfl
 |n+1,h=>by rw[bU,bU,oz fun i hi=>h i (by omega),h n (by omega)]
theorem Ho {f g:Nat->Rat}:∀{n:Nat},bU n (fun i=>f i+g i)=bU n f+bU n g
 |0=>by simp only[bU];grind
 |n+1=>by rw[bU,bU,bU,Ho];grind
theorem D6 {f:Nat->Rat}:∀{n:Nat},bU (n+1) f=f 0+bU n fun i=>f (i+1)
 |0=>by simp only[bU];grind
 |n+1=>by rw[bU,D6,bU];grind
theorem Hg {f:Nat->Rat}:∀{n:Nat},(∀i,i<n->f i=0)->bU n f=0
 |0,_=>rfl
 |n+1,h=>by rw[bU,Hg fun i hi=>h i (by omega),h n (by omega)];grind
structure Kn (n p:Nat) (k:Nat->Rat):Prop where
 p1:1<=p
 len:2*p+2<=n
 sorted:∀i,i+1<n->k i<=k (i+1)
 first:∀i,i<=p->k i=k 0
 last:∀i,n<=i+p+1->i<n->k i=k (n-1)
 mult:∀i,1<=i->i+p+1<n->k i<k (i+p)
theorem fT {n:Nat} {k:Nat->Rat} (h:∀i,i+1<n->k i<=k (i+1)) {i:Nat}:∀{j:Nat},i<=j->j<n->k i<=k j
 |0,hij,_=>by
    have:i=0:=by omega
    subst this;exact Rat.le_refl
 |j+1,hij,hj=>by
  by_cases he:i=j+1
  ·subst he;exact Rat.le_refl
  ·exact Rat.le_trans (fT h (j:=j) (by omega) (by omega)) (h j hj)
theorem Kn.mono {n p:Nat} {k:Nat->Rat} (h:Kn n p k) {j:Nat} (hij:i<=j) (hj:j<n):k i<=k j:=fT h.sorted hij hj
def fr (a b t:Rat):Rat:=(t-a)/(b-a)
theorem nk {a b:Rat} (h:a<b):fr a b t*(b-a)=t-a:=by
 unfold fr;rw[Rat.div_mul_cancel];intro e;grind
theorem FI {a b:Rat}:fr a b a=0:=by
 unfold fr;rw[Rat.sub_self,Rat.div_def,Rat.zero_mul]
theorem Rs {a b:Rat} (h:a<b):fr a b b=1:=by
 unfold fr;rw[Rat.div_def,Rat.mul_inv_cancel];intro e;grind
theorem Dz {a b:Rat} (h:a<b) (h0:a<=t):0<=fr a b t:=by
 have e:=nk (t:=t) h;rcases Rat.le_total (a:=0) (b:=fr a b t)with h1|h1
 ·exact h1
 ·by_cases h2:fr a b t=0
  ·rw[h2];exact Rat.le_refl
  ·have:=Rat.mul_pos (a:=-fr a b t) (b:=b-a) (by grind) (by grind);grind
theorem Iz {a b:Rat} (h:a<b) (h0:t<=b):fr a b t<=1:=by
 have e:=nk (t:=t) h;rcases Rat.le_total (a:=fr a b t) (b:=1)with h1|h1
 ·exact h1
 ·by_cases h2:fr a b t=1
  ·rw[h2];exact Rat.le_refl
  ·have:=Rat.mul_pos (a:=fr a b t-1) (b:=b-a) (by grind) (by grind);grind
theorem P7 {a b:Rat} (h:a<b):1-fr a b t=(b-t)/(b-a):=by
 have hne:b-a≠0:=by intro e;grind
 have e:=nk (t:=t) h;have e2:(b-t)/(b-a)*(b-a)=b-t:=Rat.div_mul_cancel hne;generalize (b-t)/(b-a)=q at*;generalize fr a b t=f at*;have:(1-f-q)*(b-a)=0:=by grind
 rcases Rat.mul_eq_zero.1 this with h1|h1
 ·grind
 ·exact absurd h1 hne
def vB (k:Nat->Rat) (i:Nat) (t:Rat):Nat->Nat->Rat
 |0,j=>if j=0 then 1 else 0
 |d+1,j=>(if j=0 then 0 else fr (k (i-d+(j-1))) (k (i-d+(j-1)+(d+1))) t*vB k i t d (j-1))+
   (if j<=d then(1-fr (k (i-d+j)) (k (i-d+j+(d+1))) t)*vB k i t d j else 0)
theorem uj {k:Nat->Rat} {i:Nat} {t:Rat}:∀{d j:Nat},d<j->vB k i t d j=0
 |0,j,h=>by unfold vB;rw[if_neg (by omega)]
 |d+1,j,h=>by
  unfold vB;rw[if_neg (by omega),if_neg (by omega),uj (d:=d) (j:=j-1) (by omega)];grind
theorem pG {k:Nat->Rat} {j:Nat}:vB k i t (d+1) (j+1)=fr (k (i-d+j)) (k (i-d+j+(d+1))) t*vB k i t d j+(1-fr (k (i-d+(j+1))) (k (i-d+(j+1)+(d+1))) t)*vB k i t d (j+1):=by
 rw[vB,if_neg (by omega),Nat.add_sub_cancel];by_cases h:j+1<=d
 ·rw[if_pos h]
 ·rw[if_neg h,uj (d:=d) (j:=j+1) (by omega)];grind
theorem ua {k:Nat->Rat}:vB k i t (d+1) 0=(1-fr (k (i-d)) (k (i-d+(d+1))) t)*vB k i t d 0:=by
 rw[vB,if_pos rfl,if_pos (by omega)];simp only[Nat.add_zero];grind
theorem R8 {k:Nat->Rat} {c:Nat->Rat}:
  bU (d+2) (fun j=>c j*vB k i t (d+1) j)=
   bU (d+1) fun j=>(c (j+1)*fr (k (i-d+j)) (k (i-d+j+(d+1))) t+c j*(1-fr (k (i-d+j)) (k (i-d+j+(d+1))) t))*vB k i t d j:=by
 rw[D6,ua];have h1:bU (d+1) (fun j=>c (j+1)*vB k i t (d+1) (j+1))=
   bU (d+1) (fun j=>c (j+1)*(fr (k (i-d+j)) (k (i-d+j+(d+1))) t*vB k i t d j))+bU (d+1) (fun j=>c (j+1)*((1-fr (k (i-d+(j+1))) (k (i-d+(j+1)+(d+1))) t)*vB k i t d (j+1))):=by
  rw[<-Ho];refine oz fun j _=>?_;rw[pG];grind
 have h2:bU (d+2) (fun j=>c j*((1-fr (k (i-d+j)) (k (i-d+j+(d+1))) t)*vB k i t d j))=
   c 0*((1-fr (k (i-d)) (k (i-d+(d+1))) t)*vB k i t d 0)+bU (d+1) (fun j=>c (j+1)*((1-fr (k (i-d+(j+1))) (k (i-d+(j+1)+(d+1))) t)*vB k i t d (j+1))):=by
  rw[D6];rfl
 have h3:bU (d+2) (fun j=>c j*((1-fr (k (i-d+j)) (k (i-d+j+(d+1))) t)*vB k i t d j))=
   bU (d+1) (fun j=>c j*((1-fr (k (i-d+j)) (k (i-d+j+(d+1))) t)*vB k i t d j)):=by
  rw[bU,uj (d:=d) (j:=d+1) (by omega)];grind
 have h4:bU (d+1) (fun j=>(c (j+1)*fr (k (i-d+j)) (k (i-d+j+(d+1))) t+c j*(1-fr (k (i-d+j)) (k (i-d+j+(d+1))) t))*vB k i t d j)=
   bU (d+1) (fun j=>c (j+1)*(fr (k (i-d+j)) (k (i-d+j+(d+1))) t*vB k i t d j))+bU (d+1) (fun j=>c j*((1-fr (k (i-d+j)) (k (i-d+j+(d+1))) t)*vB k i t d j)):=by
  rw[<-Ho];exact oz fun j _=>by grind
 rw[h1,h4,<-h3,h2];grind
theorem Pj {k:Nat->Rat} {i:Nat} {t:Rat}:∀{d:Nat},bU (d+1) (vB k i t d)=1
 |0=>by simp only[bU,vB,if_true];grind
 |d+1=>by
  have h:=R8 (k:=k) (i:=i) (t:=t) (d:=d) (c:=fun _=>1);have h1:bU (d+2) (vB k i t (d+1))=bU (d+2) (fun j=>1*vB k i t (d+1) j):=oz fun j _=>by grind
  have e:∀f x:Rat,(1*f+1*(1-f))*x=x:=fun f x=>by grind
  rw[h1,h];exact(oz fun j _=>e _ _).trans (Pj (k:=k) (i:=i) (t:=t) (d:=d))
structure At (n:Nat) (k:Nat->Rat) (i:Nat):Prop where
 lt:i+1<n
 sorted:∀i,i+1<n->k i<=k (i+1)
 wide:k i<k (i+1)
theorem At.around {n:Nat} {k:Nat->Rat} (h:At n k i) {a b:Nat} (ha:a<=i) (hb:i<b) (hn:b<n):k a<k b:=by
 have h1:=fT h.sorted ha (show i<n by have:=h.lt;omega);have h2:=fT h.sorted (show i+1<=b by omega) hn;have h3:=h.wide;grind
theorem Lc {n:Nat} {k:Nat->Rat} {i:Nat} (h:At n k i) {t:Rat} (h0:k i<=t) (h1:t<=k (i+1)):∀{d:Nat},d<=i->i+d<n->∀j,0<=vB k i t d j
 |0,_,_,j=>by unfold vB;split<;>decide
 |d+1,hd,hn,j=>by
  have ih:=Lc h h0 h1 (d:=d) (by omega) (by omega);have key:∀j,j<=d->0<=fr (k (i-d+j)) (k (i-d+j+(d+1))) t/\fr (k (i-d+j)) (k (i-d+j+(d+1))) t<=1:=fun j hj=>by
   have hlt:=h.around (a:=i-d+j) (b:=i-d+j+(d+1)) (by omega) (by omega) (by omega);have g1:=fT h.sorted (show i-d+j<=i by omega) (show i<n by omega);have g2:=fT h.sorted (show i+1<=i-d+j+(d+1) by omega) (by omega);exact⟨Dz hlt (Rat.le_trans g1 h0),Iz hlt (Rat.le_trans h1 g2)⟩
  cases j with
  |zero=>
   rw[ua];have:=key 0 (by omega);simp only[Nat.add_zero]at this;exact Rat.mul_nonneg (by grind) (ih 0)
  |succ j=>
   rw[pG];have a1:0<=fr (k (i-d+j)) (k (i-d+j+(d+1))) t*vB k i t d j:=by
    by_cases hj:j<=d
    ·exact Rat.mul_nonneg (key j hj).1 (ih j)
    ·rw[uj (d:=d) (j:=j) (by omega),Rat.mul_zero];exact Rat.le_refl
   have a2:0<=(1-fr (k (i-d+(j+1))) (k (i-d+(j+1)+(d+1))) t)*vB k i t d (j+1):=by
    by_cases hj:j+1<=d
    ·have:=(key (j+1) hj).2;exact Rat.mul_nonneg (by grind) (ih (j+1))
    ·rw[uj (d:=d) (j:=j+1) (by omega),Rat.mul_zero];exact Rat.le_refl
   grind
def nC (k:Nat->Rat) (at_:Nat) (t:Rat):Nat->Nat->Rat
 |0,i=>if i=at_ then 1 else 0
 |d+1,i=>if at_<i\/i+(d+1)<at_ then 0 else
   (t-k i)/(k (i+(d+1))-k i)*nC k at_ t d i+(k (i+(d+2))-t)/(k (i+(d+2))-k (i+1))*nC k at_ t d (i+1)
theorem Pf {k:Nat->Rat} {a:Nat} (h:a<i\/i+d<a):nC k a t d i=0:=by
 cases d with
 |zero=>unfold nC;rw[if_neg (by omega)]
 |succ d=>unfold nC;rw[if_pos h]
theorem O9 {n:Nat} {k:Nat->Rat} {i:Nat} (h:At n k i) {t:Rat}:∀{d:Nat},d<=i->i+d<n->∀j,j<=d->vB k i t d j=nC k i t d (i-d+j)
 |0,_,_,j,hj=>by
  have:j=0:=by omega
  subst this;simp[vB,nC]
 |d+1,hd,hn,j,hj=>by
  have ih:=O9 h (t:=t) (d:=d) (by omega) (by omega);rw[nC,if_neg (by omega)];cases j with
  |zero=>
   rw[ua,Pf (d:=d) (i:=i-(d+1)+0) (by omega)];have hlt:=h.around (a:=i-d) (b:=i-d+(d+1)) (by omega) (by omega) (by omega);have e0:=ih 0 (by omega);simp only[Nat.add_zero]at e0;rw[P7 hlt,e0];have e1:i-(d+1)+0+1=i-d:=by omega
   have e2:i-(d+1)+0+(d+2)=i-d+(d+1):=by omega
   rw[e1,e2];grind
  |succ j=>
   rw[pG];have e1:i-(d+1)+(j+1)=i-d+j:=by omega
   have e2:i-d+j+1=i-d+(j+1):=by omega
   have e3:i-d+j+(d+2)=i-d+(j+1)+(d+1):=by omega
   rw[e1,e2,e3,ih j (by omega)];by_cases hj1:j+1<=d
   ·have hlt:=h.around (a:=i-d+(j+1)) (b:=i-d+(j+1)+(d+1)) (by omega) (by omega) (by omega);rw[P7 hlt,ih (j+1) hj1];rfl
   ·rw[uj (d:=d) (j:=j+1) (by omega),Pf (d:=d) (i:=i-d+(j+1)) (by omega)];unfold fr;grind
def ir (k:Nat->Rat) (b p r:Nat) (t:Rat) (x:Nat->Rat) (j:Nat):Rat:=
 if r<j then x (j-1)+fr (k (b+j)) (k (b+j+(p-r))) t*(x j-x (j-1))else x j
def bl (k:Nat->Rat) (b p:Nat):Nat->(Nat->Rat)->List Rat->Nat->Rat
 |_,x,[]=>x
 |r,x,t::l=>bl k b p (r+1) (ir k b p r t x) l
def aZ (t:Nat->Rat):Nat->Nat->List Rat
 |_,0=>[]
 |a,l+1=>t a::aZ t (a+1) l
def bR (k:Nat->Rat) (b p:Nat) (t:Nat->Rat) (x:Nat->Rat):Nat->Nat->Rat
 |0=>x
 |r+1=>ir k b p r (t r) (bR k b p t x r)
variable {k:Nat->Rat} {b p:Nat}
theorem Rt {t x:Nat->Rat}:∀{l r:Nat},bl k b p r (bR k b p t x r) (aZ t r l)=bR k b p t x (r+l)
 |0,r=>rfl
 |l+1,r=>by
  have:=Rt (t:=t) (x:=x) (l:=l) (r:=r+1);rw[show r+(l+1)=r+1+l by omega,<-this];rfl
theorem BL {t x:Nat->Rat} {l:Nat}:bR k b p t x l=bl k b p 0 x (aZ t 0 l):=by
 have:=Rt (k:=k) (b:=b) (p:=p) (t:=t) (x:=x) (l:=l) (r:=0);rw[Nat.zero_add]at this;exact this.symm
theorem Bw:∀{l:List Rat} {r:Nat} {x y:Nat->Rat},r+l.length=p->(∀j,r<=j->j<=p->x j=y j)->bl k b p r x l p=bl k b p r y l p
 |[],r,x,y,hl,h=>h p (by simp at hl;omega) (Nat.le_refl _)
 |t::l,r,x,y,hl,h=>by
  refine Bw (l:=l) (r:=r+1) (by simp at hl;omega) fun j h1 h2=>?_;unfold ir;rw[if_pos (by omega),if_pos (by omega),h j (by omega) h2,h (j-1) (by omega) (by omega)]
theorem Li {x y u v:Rat} (hu:u≠0) (hv:v≠0) (h:x*(u*v)=y*(u*v)):x=y:=by
 have:(x-y)*(u*v)=0:=by grind
 simp only[Rat.mul_eq_zero]at this;rcases this with h1|h1|h1
 ·grind
 ·exact absurd h1 hu
 ·exact absurd h1 hv
theorem UB {a1 a2 b1 b2 s x0 x1 x2:Rat} (h1:a1<b1) (h2:a2<b1) (h3:a2<b2):
  x0+fr a1 b1 s*(x1-x0)+fr a2 b1 t*(x1+fr a2 b2 s*(x2-x1)-(x0+fr a1 b1 s*(x1-x0)))=
   x0+fr a1 b1 t*(x1-x0)+fr a2 b1 s*(x1+fr a2 b2 t*(x2-x1)-(x0+fr a1 b1 t*(x1-x0))):=by
 have n1:b1-a1≠0:=by intro e;grind
 have n2:b1-a2≠0:=by intro e;grind
 have n3:b2-a2≠0:=by intro e;grind
 have e1:=nk (t:=s) h1;have e2:=nk (t:=t) h1;have e3:=nk (t:=s) h2;have e4:=nk (t:=t) h2;have e5:=nk (t:=s) h3;have e6:=nk (t:=t) h3;generalize fr a1 b1 s=f1s at*;generalize fr a1 b1 t=f1t at*;generalize fr a2 b1 s=gs at*;generalize fr a2 b1 t=gt at*;generalize fr a2 b2 s=f2s at*;generalize fr a2 b2 t=f2t at*;have c0:(1-gt)*(1-f1s)=(1-gs)*(1-f1t):=by
  refine Li n2 n1 ?_;have q1:(1-gt)*(b1-a2)=b1-t:=by grind
  have q2:(1-f1s)*(b1-a1)=b1-s:=by grind
  have q3:(1-gs)*(b1-a2)=b1-s:=by grind
  have q4:(1-f1t)*(b1-a1)=b1-t:=by grind
  have l1:(1-gt)*(1-f1s)*((b1-a2)*(b1-a1))=((1-gt)*(b1-a2))*((1-f1s)*(b1-a1)):=by grind
  have l2:(1-gs)*(1-f1t)*((b1-a2)*(b1-a1))=((1-gs)*(b1-a2))*((1-f1t)*(b1-a1)):=by grind
  rw[l1,l2,q1,q2,q3,q4];grind
 have c2:gt*f2s=gs*f2t:=by
  refine Li n2 n3 ?_;have l1:gt*f2s*((b1-a2)*(b2-a2))=(gt*(b1-a2))*(f2s*(b2-a2)):=by grind
  have l2:gs*f2t*((b1-a2)*(b2-a2))=(gs*(b1-a2))*(f2t*(b2-a2)):=by grind
  rw[l1,l2,e3,e4,e5,e6];grind
 have f1:x0+f1s*(x1-x0)+gt*(x1+f2s*(x2-x1)-(x0+f1s*(x1-x0)))=((1-gt)*(1-f1s))*x0+(1-(1-gt)*(1-f1s)-gt*f2s)*x1+(gt*f2s)*x2:=by grind
 have f2:x0+f1t*(x1-x0)+gs*(x1+f2t*(x2-x1)-(x0+f1t*(x1-x0)))=((1-gs)*(1-f1t))*x0+(1-(1-gs)*(1-f1t)-gs*f2t)*x1+(gs*f2t)*x2:=by grind
 rw[f1,f2,c0,c2]
variable {n:Nat}
theorem aem (h:At n k (b+p)) (hn:b+p+p<n) {s:Rat} {x:Nat->Rat} {r j:Nat} (h1:r+2<=j) (h2:j<=p):
  ir k b p (r+1) t (ir k b p r s x) j=ir k b p (r+1) s (ir k b p r t x) j:=by
 have a1:=h.around (a:=b+(j-1)) (b:=b+(j-1)+(p-r)) (by omega) (by omega) (by omega);have a2:=h.around (a:=b+j) (b:=b+j+(p-(r+1))) (by omega) (by omega) (by omega);have a3:=h.around (a:=b+j) (b:=b+j+(p-r)) (by omega) (by omega) (by omega);have e:b+j+(p-(r+1))=b+(j-1)+(p-r):=by omega
 rw[e]at a2;simp only[ir];rw[if_pos (by omega),if_pos (by omega),if_pos (by omega),if_pos (by omega),if_pos (by omega),if_pos (by omega),e];exact UB a1 a2 a3
theorem o8 (h:At n k (b+p)) (hn:b+p+p<n) {m:List Rat} (hp:l.Perm m):∀{r:Nat} {x:Nat->Rat},r+l.length=p->bl k b p r x l p=bl k b p r x m p:=by
 induction hp with
 |nil=>intro r x _;rfl
 |cons t _ ih=>intro r x hl;exact ih (by simp at hl;omega)
 |swap s t l=>
  intro r x hl;refine Bw (l:=l) (r:=r+2) (by simp at hl;omega) fun j h1 h2=>?_;exact aem h hn h1 h2
 |trans h1 h2 ih1 ih2=>intro r x hl;rw[ih1 hl,ih2 (by rw[<-h1.length_eq];exact hl)]
def jc (t:Nat->Rat) (a:Nat):Nat->List Rat
 |0=>[]
 |l+1=>t (a+l)::jc t a l
theorem wI {t:Nat->Rat}:∀{l a:Nat},aZ t a (l+1)=aZ t a l++[t (a+l)]
 |0,a=>rfl
 |l+1,a=>by
  rw[aZ,wI (l:=l) (a:=a+1),aZ,List.cons_append,show a+1+l=a+(l+1) by omega]
theorem oe {t:Nat->Rat} {a:Nat}:∀{l:Nat},(jc t a l).Perm (aZ t a l)
 |0=>.nil
 |l+1=>by
  rw[wI,jc];exact((oe (l:=l)).cons _).trans (List.perm_append_singleton _ _).symm
theorem nT {t:Nat->Rat} {m:Nat}:∀{l a:Nat},aZ t a (l+m)=aZ t a l++aZ t (a+l) m
 |0,a=>by rw[Nat.zero_add];rfl
 |l+1,a=>by
  rw[show l+1+m=(l+m)+1 by omega,aZ,nT (l:=l) (a:=a+1),aZ,List.cons_append,show a+1+l=a+(l+1) by omega]
theorem iy {t:Nat->Rat}:∀{l a:Nat},(aZ t a l).length=l
 |0,_=>rfl
 |l+1,a=>by rw[aZ,List.length_cons,iy]
theorem ajZ {m:List Rat}:∀{r:Nat} {x:Nat->Rat},bl k b p r x (l++m)=bl k b p (r+l.length) (bl k b p r x l) m:=by
 induction l with
 |nil=>intro r x;rfl
 |cons t l ih=>
  intro r x;rw[List.cons_append,bl,ih,bl,List.length_cons,show r+1+l.length=r+(l.length+1) by omega]
theorem OU (h:At n k (b+p)) (hn:b+p+p<n) {J:Nat} (hJ:J<=p):∀{l r:Nat} {x:Nat->Rat},r+l=J->bl k b p r x (jc k (b+p+1) l) J=x J
 |0,r,x,_=>rfl
 |l+1,r,x,hr=>by
  rw[jc,bl,OU h hn hJ (l:=l) (r:=r+1) (by omega)];unfold ir;have a1:=h.around (a:=b+J) (b:=b+J+(p-r)) (by omega) (by omega) (by omega);rw[if_pos (by omega),show b+p+1+l=b+J+(p-r) by omega,Rs a1];grind
theorem Qa {J:Nat}:∀{l q:Nat} {x:Nat->Rat},bl k b p (J+q) x (aZ k (b+J+1+q) l) (J+q+l)=x (J+q)
 |0,q,x=>rfl
 |l+1,q,x=>by
  have ih:=Qa (J:=J) (l:=l) (q:=q+1) (x:=ir k b p (J+q) (k (b+J+1+q)) x);rw[aZ,bl,show J+q+(l+1)=J+(q+1)+l by omega,show J+q+1=J+(q+1) by omega,show b+J+1+q+1=b+J+1+(q+1) by omega,ih];unfold ir;rw[if_pos (by omega),show b+J+1+q=b+(J+(q+1)) by omega,FI,show J+(q+1)-1=J+q by omega];grind
theorem Ul (h:At n k (b+p)) (hn:b+p+p<n) {J:Nat} (hJ:J<=p) {x:Nat->Rat}:bl k b p 0 x (aZ k (b+J+1) p) p=x J:=by
 have e:aZ k (b+J+1) p=aZ k (b+J+1) (p-J)++aZ k (b+p+1) J:=by
  have:=nT (t:=k) (l:=p-J) (a:=b+J+1) (m:=J);rw[show p-J+J=p by omega,show b+J+1+(p-J)=b+p+1 by omega]at this;exact this
 have hp:(aZ k (b+J+1) p).Perm (jc k (b+p+1) J++aZ k (b+J+1) (p-J)):=by
  rw[e];exact(List.perm_append_comm).trans ((oe).symm.append_right _)
 rw[o8 h hn hp (by rw[iy];omega),ajZ];have hd:(jc k (b+p+1) J).length=J:=by rw[(oe).length_eq,iy]
 rw[hd,Nat.zero_add];have:=Qa (k:=k) (b:=b) (p:=p) (J:=J) (l:=p-J) (q:=0) (x:=bl k b p 0 x (jc k (b+p+1) J));simp only[Nat.add_zero]at this;rw[show J+(p-J)=p by omega]at this;rw[this];exact OU h hn hJ (l:=J) (r:=0) (by omega)
theorem diag (i:Nat) (hi:b+p=i) (t:Rat) {x:Nat->Rat}:∀{r:Nat},r<=p->bU (p-r+1) (fun j=>bR k b p (fun _=>t) x r (r+j)*vB k i t (p-r) j)=bU (p+1) fun j=>x j*vB k i t p j
 |0,_=>by simp only[Nat.sub_zero,Nat.zero_add];rfl
 |r+1,hr=>by
  rw[<-diag i hi t (x:=x) (r:=r) (by omega)];obtain⟨d,hd⟩:∃d,p-r=d+1:=⟨p-r-1,by omega⟩
  rw[show p-(r+1)=d by omega,hd,R8];refine oz fun j hj=>?_;rw[bR,ir,if_pos (by omega),show r+1+j-1=r+j by omega,show b+(r+1+j)=i-d+j by omega,hd,show r+(j+1)=r+1+j by omega];grind
theorem adk (i:Nat) (hi:b+p=i) (t:Rat) {x:Nat->Rat}:bR k b p (fun _=>t) x p p=bU (p+1) fun j=>x j*vB k i t p j:=by
 rw[<-diag i hi t (r:=p) (Nat.le_refl _),Nat.sub_self];simp only[bU,vB,Nat.add_zero,if_true];grind
end Go.Am.B
namespace Go.Am.B
def mw (g:Nat->Bool):Nat->Nat
 |0=>0
 |m+1=>if g m then m else mw g m
theorem Md {g:Nat->Bool} {i:Nat} (hi:g i=true):∀{m:Nat},i<m->(∀j,i<j->j<m->g j=false)->mw g m=i
 |0,h,_=>by omega
 |m+1,h,hn=>by
  unfold mw;by_cases he:i=m
  ·subst he;rw[if_pos hi]
  ·rw[if_neg (by rw[hn m (by omega) (by omega)];decide),Md hi (m:=m) (by omega) fun j h1 h2=>hn j h1 (by omega)]
def bJ (n:Nat) (k:Nat->Rat) (t:Rat):Nat:=mw (fun i=>decide (k i<k (i+1))&&decide (k i<=t)) (n-1)
structure CM (n:Nat) (k:Nat->Rat) (t:Rat) (i:Nat):Prop where
 at_:At n k i
 lo:k i<=t
 hi:t<=k (i+1)
 Hh:t<k (i+1)\/k (i+1)=k (n-1)
theorem wU {n:Nat} {k:Nat->Rat} (h:CM n k t i):bJ n k t=i:=by
 have hw:=h.at_.wide;have hlo:=h.lo;refine Md (by simp[hw,hlo]) (by have:=h.at_.lt;omega) fun j h1 h2=>?_;rcases h.Hh with h3|h3
 ·have:=fT h.at_.sorted (show i+1<=j by omega) (show j<n by omega);have:¬k j<=t:=by grind
  simp[this]
 ·have a1:=fT h.at_.sorted (show i+1<=j by omega) (show j<n by omega);have a2:=fT h.at_.sorted (show j+1<=n-1 by omega) (show n-1<n by omega);have:¬k j<k (j+1):=by grind
  simp[this]
theorem RN {g:Nat->Bool}:∀{m:Nat},(∃i,i<m/\g i=true)->g (mw g m)=true/\mw g m<m/\∀j,mw g m<j->j<m->g j=false
 |0,⟨i,h,_⟩=>by omega
 |m+1,⟨i,h,hi⟩=>by
  unfold mw;by_cases hm:g m=true
  ·rw[if_pos hm];exact⟨hm,by omega,fun j h1 h2=>by omega⟩
  ·rw[if_neg hm];have hi':i<m:=by
    by_cases he:i=m
    ·subst he;exact absurd hi hm
    ·omega
   obtain⟨a1,a2,a3⟩:=RN (g:=g) (m:=m) ⟨i,hi',hi⟩;refine⟨a1,by omega,fun j h1 h2=>?_⟩;by_cases he:j=m
   ·subst he;simpa using hm
   ·exact a3 j h1 (by omega)
theorem Kn.yg {n p:Nat} {k:Nat->Rat} (h:Kn n p k) (h0:k 0<=t) (h1:t<=k (n-1)):CM n k t (bJ n k t)/\p<=bJ n k t/\bJ n k t+p+1<n:=by
 have hp:=h.p1;have hl:=h.len;have hw:k p<k (p+1):=by
  have:=h.mult 1 (by omega) (by omega);rw[h.first 1 (by omega),show 1+p=p+1 by omega]at this;rw[h.first p (by omega)];exact this
 obtain⟨a1,a2,a3⟩:=RN (g:=fun i=>decide (k i<k (i+1))&&decide (k i<=t)) (m:=n-1) ⟨p,by omega,by rw[h.first p (by omega)]at*;simp[hw,h0]⟩;have e:bJ n k t=mw (fun i=>decide (k i<k (i+1))&&decide (k i<=t)) (n-1):=rfl;rw[<-e]at a1 a2 a3;generalize bJ n k t=i at*;simp only[Bool.and_eq_true,decide_eq_true_eq]at a1;have hat:At n k i:=⟨by omega,h.sorted,a1.1⟩
 -- from the next knot on
 have key:t<k (i+1)\/k (i+1)=k (n-1):=by
  by_cases ht:t<k (i+1)
  ·exact .inl ht
  ·refine .inr ?_;have step:∀j,i+1<=j->j<=n-1->k j=k (i+1):=by
    intro j hj1 hj2
    induction j with
    |zero=>omega
    |succ j ih=>
     by_cases hji:j+1=i+1
     ·rw[hji]
     ·have e1:=ih (by omega) (by omega);have:=a3 j (by omega) (by omega);have hs:=h.sorted j (by omega);by_cases hlt:k j<k (j+1)
      ·simp[hlt]at this;grind
      ·grind
   exact(step (n-1) (by omega) (by omega)).symm
 have hi2:t<=k (i+1):=by rcases key with h2|h2<;>grind
 refine⟨⟨hat,a1.2,hi2,key⟩,?_,?_⟩
 ·by_cases hge:p<=i
  ·exact hge
  ·exfalso;have:=h.first i (by omega);have:=h.first (i+1) (by omega);have:=a1.1;grind
 ·by_cases hge:i+p+1<n
  ·exact hge
  ·exfalso;have:=h.last i (by omega) (by omega);have:=h.last (i+1) (by omega) (by omega);have:=a1.1;grind
end Go.Am.B
