/- brepkernellaw10.CurveInserts. -/
import Derived.Test.YtppeigelbecpbaaGreatY39
import Derived.Test.YtppeigelbecpbaaGreatY40
import Derived.Test.YtppeigelbecpbaaGreatY41
set_option linter.unusedVariables false
namespace Go.Am.B
open Go Go.Am.N AV aa ak IntKind
theorem JO:aP P HD j6 (au j6):=aQ ado (by kernel_rfl) (by kernel_rfl) (by kernel_rfl)
abbrev fL (z:Nat→Int):Nat→AV:=fun i=>.int .i64 (z i)
noncomputable def Ls:aS:=[(OM,kX T (nG::(By,NK)::(wm,iy G4)::[]) [] 60 Ot)]
def Cr:Spec:=cD (kC (ij 2000 2000) (kC (fq 2000) kN)) (fun a=>.tuple [bh (dJ a.1 a.2.1) 2000 sE,.int .i64 (cw a.1 a.2.1)]) fun a=>[dG a.1 5,cO a.2.1]
noncomputable def ES:aS:=nG::(Ch,KM)::(xI,JH)::(ry,D9)::(oT,Cr)::(uQ,Cr)::(xq,I5)::(zE,Bx)::(Bb,Bx)::(Cv,Eg)::(vQ,Eg)::(Ea,Mx)::(Ls++(Ff++Ge))
noncomputable abbrev sW:Code:=au j6
abbrev B4:List Nat:=[6,1,7,8]
abbrev HE (c:Cu) (n:Nat) (z:Nat→Int) (t:Rat):aI:=⟨aB B4 [.bool false,tr z n,.ptr 0 0 3 0 [],.ptr 1 0 3 0 []],[(1,tP t 2000),(0,⟨false,true,3,1,fun _=>bh c 64 64⟩)],2⟩
theorem afX {m n:Nat} {y z:Nat→Int} {i:Int}:aJ T ES [26,30,40] 60 B4 (before sW [1,1,1,1,1]) ⟨aN 0 [.aj 1 m (fL y),.aj 1 n (fL z),.int .i64 i],[],0⟩=
  let c16:AV:=rat 0 1;let c12:Bool:=!decide ((↑m:Int)≤(500:Int));let c11:AV:=aj 1 n fun a↦int i64 (z a);let c9:Int:=bA m (0:Int);let c8:Nat:=Int.toNat (4:Int);let c6:Nat:=jb m (fL y) (0:Int) (4:Int);let c5:Prop:=0<1;let c15:List AV:=[AV.bool true,c11,tuple [],tuple []];let c13:Rat:=lR m (fL y) c9 c6 c8 (Int.toNat (0:Int));let c7:List AV:=[AV.bool false,c11,ptr 45056 0 3 0 [],ptr 69632 0 3 0 []];let c2:Nat:=mW m (fL y) c9 c6 c8;let c14:Int:=(↑c2:Int);let c3:List (Nat×ah):=[((45056:Nat),ah.mk false true 3 1 fun j↦if(j==0)=true then aT (agg [int i64 (↑c6:Int),aj 3 c2 fun i↦rat (lR m (fL y) c9 c6 c8 i) 64,aj 12 (c6+1+jv m (fL y) c9 c8) fun i↦bI (pT m (fL y) (jh m (fL y) (lp m (fL y) (0:Int) (4:Int) c8) i) false) 64])else agg [int i64 (0:Int),nil,nil])];let c10:Int:=c14-(1:Int);let c4:AV:=aT (rat (c13+nD i*(lR m (fL y) c9 c6 c8 c10.toNat-c13)) ((64:Nat)+((64:Nat)+((64:Nat)+64+1))+1));let c1:aa (List AV×aC):=ag [cN m (fL y) (0:Int),(1:Int)≤(4:Int),(4:Int)<(900:Int),(0:Int)≤(4:Int),(4:Int)<(900:Int),c5,c5,c5] (ag [c5,c5,(0:Int)≤(0:Int)∧Int.toNat (0:Int)<c2,c5,c5,-(2:Int)^63≤c10∧c10<(2:Int)^63,(0:Int)≤c10∧c10.toNat<c2,c5,c5,c5,c5] (ag [(0:Int)<(5:Int),(5:Int)<(2:Int)^62] (fork (i%(5:Int)==(4:Int)) (ag [c5,c5,(0:Int)<c14,c14<(2:Int)^62,(0:Int)≤i%c14∧(i%c14).toNat<c2,c5] (leaf normal (c7,((69632:Nat),ah.mk false true 3 1 fun j↦if(j==0)=true then aT (rat (lR m (fL y) c9 c6 c8 (i%c14).toNat) 64)else if(j==0)=true then c4 else c16)::c3))) (leaf normal (c7,((69632:Nat),ah.mk false true 3 1 fun j↦if(j==0)=true then c4 else c16)::c3)))));some (fork c12 (ag [c12=true] (fork true (leaf ret (c15,[])) c1)) (ag [c12=false] (fork (bif false then true else decide ((↑n:Int)>(5:Int))) (leaf ret (c15,[])) c1))):=by kernel_rfl
theorem Ye {c:Cu} {n:Nat} {z:Nat→Int} {t:Rat}:bY T ES [100095,100100,100105,100110,100115,100120,100125] 200 j6 [part sW [1,1,1,1,1]] (HE c n z t)=
  let c28:Prop:=2000≤2000;let c13:Prop:=fj (fun i↦bI (c.f i) 64) c.m 2000;let c12:Prop:=(bif true then true else false)=true;let c11:Prop:=bK (fun i↦rat (c.k i) 64) c.n 2000;let c10:Nat:=2^30;let c4:Prop:=0<1;let c1:Cu:=Cu.mk c.p c.n (fun i↦aO (rat (c.k i) 64)) c.m fun i↦fI (bI (c.f i) 64);let c27:Prop:=dG c1 5;let c18:Int:=eL c1 (fun i↦aO (rat (jf c1 (intOf (int i64 (z i)))) 2000)) n;let c17:Cu:=iT c1 t;let c16:Cu:=iU c1 t;let c14:Cu:=dJ c1 t;let c2:Cu:=jC c1 (fun i↦aO (rat (jf c1 (intOf (int i64 (z i)))) 2000)) n;let c26:Prop:=fj (fun i↦bI (c2.f i) sE) c2.m sE;let c25:Prop:=fj (fun i↦bI (c16.f i) sE) c16.m sE;let c24:Prop:=fj (fun i↦bI (c17.f i) sE) c17.m sE;let c23:Prop:=fj (fun i↦bI (c14.f i) sE) c14.m sE;let c22:Prop:=bK (fun i↦rat (c2.k i) 2000) c2.n sK;let c21:Prop:=bK (fun i↦rat (c17.k i) 2000) c17.n sK;let c20:Prop:=bK (fun i↦rat (c14.k i) 2000) c14.n sK;let c19:Prop:=bK (fun i↦rat (c16.k i) 2000) c16.n sK;let c15:Cu:=Cu.mk c2.p c2.n (fun i↦aO (rat (c2.k i) 2000)) c2.m fun i↦fI (bI (c2.f i) sE);let c9:Cu:=Cu.mk c16.p c16.n (fun i↦aO (rat (c16.k i) 2000)) c16.m fun i↦fI (bI (c16.f i) sE);let c8:Cu:=Cu.mk c17.p c17.n (fun i↦aO (rat (c17.k i) 2000)) c17.m fun i↦fI (bI (c17.f i) sE);let c7:Cu:=Cu.mk c14.p c14.n (fun i↦aO (rat (c14.k i) 2000)) c14.m fun i↦fI (bI (c14.f i) sE);let c6:List Prop:=[c4,c4,c11,c13,c28,c27,cO t,c4];let c5:List Prop:=[c4,c4,c11,c13,c28,c27,cO t,c.m+c.p.toNat≤40,c.p≤(5:Int),c4,c4];let c3:List Prop:=[c4,c4,bK (fun i↦rat (c.k i) 64) c.n 64,fj (fun i↦bI (c.f i) 64) c.m 64,LA (fun i↦int i64 (z i)) n,(1:Nat)≤c.n,c.n<2^40,n≤6,c11,c13,bK (fun i↦rat (jf c1 (intOf (int i64 (z i)))) 2000) n 2000,c27,∀(i:Nat),cO (aO (rat (jf c1 (intOf (int i64 (z i)))) 2000)),n≤5,c4];some (ag c6 (ag c6 (ag c3 (ag c3 (ag c5 (ag c5 (ag [(cw c1 t==cw c1 t)=true,c4,c4,c20,c23,c20,c23,c7=c7,c14.n<c10,c14.m<c10,c12,(bif true then c18==c18 else false)=true,c4,c4,c22,c26,c22,c26,c15=c15,c2.n<c10,c2.m<c10,c12,(bif true then lN c1 t==lN c1 t else false)=true,c4,c4,c19,c25,c19,c25,c9=c9,c16.n<c10,c16.m<c10,c12,c4,c4,c21,c24,c21,c24,c8=c8,c17.n<c10,c17.m<c10,c12] (leaf ret [AV.bool true])))))))):=by kernel_rfl
theorem aba:aW P Ls:=aH (mE hT (cL (aH US (aH RP bp))) hm (aQ Sx (by kernel_rfl) (by kernel_rfl) (by kernel_rfl)) _ _) bp
theorem O6 {c:Cu} {t:Rat} {x y:Nat} (hc:dG c 5) (ht:cO t) (hy:y≤sE):bw (bh (dJ c t) x y) (bh (dJ c t) 2000 sE):=by
 by_cases h:cw c t=0
 ·exact rP (hc.ins ht h) hy
 ·rw[show dJ c t=gM from if_neg h]
  exact cB ⟨.refl _,fT fun i hi=>absurd hi (Nat.not_lt_zero i),fT fun i hi=>absurd hi (Nat.not_lt_zero i),trivial⟩
theorem Qk {P:Program} {f:FuncId} {K:Nat} {args us vs:List AV} {l l':List Prop} (hf:aA P f K args [] ⟨.tuple us,[],l⟩) (hl:ax l'→ax l) (hk:bf us=[]) (hle:eC us vs):aA P f K args [] ⟨.tuple vs,[],l'⟩:=by
 intro need
 obtain⟨h1,h2⟩:=hf (hl need)
 refine⟨fun k o ho=>by simp[look]at ho,fun c D D' β w vs hw0 hMw hrel hD hK hv=>(h2 c D D' β w vs hw0 hMw hrel hD hK hv).mono ?_⟩
 rintro x w' ⟨β',g1,g2,xs,rfl,g3⟩
 exact⟨β',g1,g2,xs,rfl,(AH hle (g3.aZ hk)).mono (fun b o h1 h2=>⟨h2,h1⟩) (β':=β') fun k x hx=>by simp[aZ]at hx⟩
theorem RN:∀K args pre q,Cr K args pre=some q→aA P oT K args pre q:=cj fun⟨c,t,_⟩ K hn=>by
 have hc:dG c 5:=hn.1
 have ht:cO t:=hn.2
 exact Qk (us:=[bh (dJ c t) (sK+10) (sB+sB),.int .i64 (cw c t)]) (Ok K [bh c 2000 2000,.rat t 2000] [] _ rfl) (fun _=>⟨ct (Nat.le_refl _),gU (Nat.le_refl _),Nat.le_refl _,hc.kn⟩) rfl ⟨O6 hc ht (by decide),.refl _,trivial⟩
theorem VS:∀K args pre q,Cr K args pre=some q→aA P uQ K args pre q:=cj fun⟨c,t,_⟩ K hn=>by
 have hc:dG c 5:=hn.1
 have ht:cO t:=hn.2
 exact Qk (us:=[bh (dJ c t) 2002 sE,.int .i64 (cw c t)]) (Nb K [bh c 2000 2000,.rat t 2000] [] _ rfl) (fun _=>⟨ct (Nat.le_refl _),gU (Nat.le_refl _),Nat.le_refl _,hc.kn,fun i=>pK (hc.pos i)⟩) rfl ⟨O6 hc ht (by decide),.refl _,trivial⟩
theorem K8:aW P ES:=cL (aH aaf (aH afp (aH Fy (aH RN (aH VS (aH af2 (aH aaY (aH QK (aH ab9 (aH YQ (aH aen (sO aba (sO Km Qc)))))))))))))
theorem NU {c:Cu} {t:Rat}:(dJ c t).n≤c.n+1∧(dJ c t).m≤c.m+1:=by
 unfold dJ
 split
 ·exact⟨Nat.le_refl _,Nat.le_refl _⟩
 ·exact⟨Nat.zero_le _,Nat.zero_le _⟩
theorem Pn {c:Cu} {t:Nat→Rat}:∀{r:Nat},(gB c t r).n≤c.n+r∧(gB c t r).m≤c.m+r
 |0=>⟨Nat.le_refl _,Nat.le_refl _⟩
 |r+1=>by
  obtain⟨h1,h2⟩:=Pn (c:=c) (t:=t) (r:=r)
  obtain⟨h3,h4⟩:=NU (c:=gB c t r) (t:=t r)
  exact⟨by show(dJ (gB c t r) (t r)).n≤_;omega,by show(dJ (gB c t r) (t r)).m≤_;omega⟩
theorem ajb {c:Cu} {t:Nat→Rat} {r:Nat}:(jC c t r).n≤c.n+r∧(jC c t r).m≤c.m+r:=by
 unfold jC
 split
 ·exact Pn
 ·exact⟨Nat.zero_le _,Nat.zero_le _⟩
theorem ajr {c:Cu} {t:Rat} (hc:dG c 5) (ht:cO t) (h40:c.m+c.p.toNat≤40):(iU c t).n≤c.n+10∧(iU c t).m≤c.n+10∧(iT c t).n≤c.n+10∧(iT c t).m≤c.m+10:=by
 by_cases h:c.k 0<t∧t<c.k (c.n-1)
 ·obtain⟨k1,k2,k3,k4,k5⟩:=id hc.kn
  have hle:=k1.Bc h.1 h.2
  have hs:iY c t (c.p.toNat-aU c.k t c.n):=iY.all hc ht h.1 h.2 h40 (by omega)
  have hd:dG (bM c t) (qz (c.p.toNat-aU c.k t c.n)):=lQ hc (fun _=>ht) hs.e
  have hn:(bM c t).n=c.n+(c.p.toNat-aU c.k t c.n):=hs.n
  have hm2:(bM c t).m=c.m+(c.p.toNat-aU c.k t c.n):=hs.m
  have f0:(bM c t).k 0=c.k 0:=hs.k0
  have f1:(bM c t).k ((bM c t).n-1)=c.k (c.n-1):=hs.k1
  obtain⟨i1,i2,i3⟩:=lK hd.kn.1 (by rw[f0];exact h.1) (by rw[f1];exact h.2)
  rw[show iU c t=s8 (bM c t) t (bz (bM c t).n (bM c t).k t)from if_pos h,show iT c t=uh (bM c t) t (bz (bM c t).n (bM c t).k t)from if_pos h]
  unfold s8 uh
  dsimp only
  omega
 ·rw[show iU c t=gM from if_neg h,show iT c t=gM from if_neg h]
  exact⟨Nat.zero_le _,Nat.zero_le _,Nat.zero_le _,Nat.zero_le _⟩
theorem aaO {c:Cu} {n:Nat} {z:Nat→Int} {t:Rat} {cx:Ctx} (hc:dG c 5) (ht:cO t) (hz:∀d,cO (jf c d)) (hp5:c.p≤5) (h40:c.m+c.p.toNat≤40) (hn:n≤5):
  aD P cx j6.ntmps [part sW [1,1,1,1,1]] (HE c n z t) (de cx (Fin T j6 (.bool true))):=by
 refine(aD.fin hT K8 hm 200 Ye (by kernel_rfl) ?_).mono fun _ _ h=>.inl h
 obtain⟨k1,k2,k3,k4,k5⟩:=id hc.kn
 have hl:=k1.len
 have e1:(Cu.mk c.p c.n (fun i=>aO (rat (c.k i) 64)) c.m fun i=>fI (bI (c.f i) 64))=c:=rfl
 have e2:(fun i=>aO (rat (jf c (intOf (AV.int .i64 (z i)))) 2000))=fun i=>jf c (z i):=rfl
 obtain⟨q1,q2⟩:=NU (c:=c) (t:=t)
 obtain⟨q3,q4⟩:=ajb (c:=c) (t:=fun i=>jf c (z i)) (r:=n)
 obtain⟨q5,q6,q7,q8⟩:=ajr hc ht h40
 simp only[aa.all,ax,e1,e2,cond_true,beq_self_eq_true]
 (repeat' with_reducible refine And.intro ?_ ?_)
 all_goals first|omega|exact ct (by decide)|exact gU (by decide)|exact hc|exact ht|exact fun i=>hz (z i)|exact fun _ _=>rfl|exact .refl _|decide|skip
set_option maxRecDepth 20000 in
set_option maxHeartbeats 1000000 in
theorem agP {m n:Nat} {y z:Nat→Int} {i:Int} (K:Nat):aA P HD K [.aj 1 m (fun i=>.int .i64 (y i)),.aj 1 n (fun i=>.int .i64 (z i)),.int .i64 i] [] (aG (.bool true) []):=by
 refine gk (r:=aG (.bool true) []) hT JO rfl (of_decide_eq_true (by kernel_rfl)) rfl (fun _ cx h0=>?_) K []
 have hk:=nP h0
 have hret:nZ j6 B4 (.bool true) ([AV.bool true,tr z n,tuple [],tuple []],[]):=⟨[.bool true],by kernel_rfl,bw.refl _⟩
 refine aq.hole [1,1,1,1,1] (by kernel_rfl) (aD.bk hT K8 hm 60 B4 afX (nM JO.dst) ?_)
 simp only[aa.all,ax,cond_false]
 have hd0:(!decide ((m:Int)≤500))=false→cN m (fL y) 0:=fun h=>⟨fun i=>rfl,by omega,by omega,by simp only[Bool.not_eq_false',decide_eq_true_eq]at h;omega⟩
 have go:cN m (fL y) 0→n≤5→∀{t:Rat} {s':aI},cO t→(∃ρ,Le cx ρ s' (HE (fo m (fL y) 0 4 4 false) n z t))→aq P cx j6.ntmps (part sW [1,1,1,1,1]) s' (dm (fun s''=>aD P cx j6.ntmps (behind sW [1,1,1,1,1]) s'' (de cx (Fin T j6 (.bool true)))) (de cx (Fin T j6 (.bool true)))):=fun hd hn {t s'} ht hle=>by
  obtain⟨k1,k2,k3,k4,k5,k6⟩:=Hp (m:=4) (b:=false) hd (show(1:Int)≤4 by omega)
  have hc:=Mb (m:=4) hd (show(1:Int)≤4 by omega) (by omega) (by omega)
  have hh:=Ex (m:=4) (b:=false) hd (show(1:Int)≤4 by omega) (by omega)
  have hl:=k1.len
  rw[show behind sW [1,1,1,1,1]=[]from by kernel_rfl]
  exact aq.kK hle ((aq.jK (aaO hc ht (fun d=>LY (hh _) (hh _) (k1.mono (Nat.zero_le _) (by omega))) (by omega) (by omega) hn)).mono fun e s' h=>by cases e<;>exact h)
 refine⟨fun h=>⟨h,fun _ s' hs'=>hret.fin hs',fun g=>absurd g (by decide)⟩,fun h=>⟨h,fun _ s' hs'=>hret.fin hs',fun g=>?_⟩⟩
 have hd:=hd0 h
 have hn:n≤5:=by
  have:=of_decide_eq_false g
  omega
 obtain⟨k1,k2,k3,k4,k5,k6⟩:=Hp (m:=4) (b:=false) hd (show(1:Int)≤4 by omega)
 have hc:=Mb (m:=4) hd (show(1:Int)≤4 by omega) (by omega) (by omega)
 have hh:=Ex (m:=4) (b:=false) hd (show(1:Int)≤4 by omega) (by omega)
 have hl:=k1.len
 have hn3:=hc.kn.2.2.2.1
 have eN:mW m (fL y) (bA m 0) (jb m (fL y) 0 4) (Int.toNat 4)=(fo m (fL y) 0 4 4 false).n:=rfl
 have eK:lR m (fL y) (bA m 0) (jb m (fL y) 0 4) (Int.toNat 4)=(fo m (fL y) 0 4 4 false).k:=rfl
 simp only[eN,eK,Int.toNat_zero]
 generalize hcc:(fo m (fL y) 0 4 4 false)=c at*
 have m0:=Int.emod_nonneg i (show(c.n:Int)≠0 by omega)
 have m1:=Int.emod_lt_of_pos i (show(0:Int)<c.n by omega)
 have e1:((c.n:Int)-1).toNat=c.n-1:=by omega
 simp only[e1]
 refine⟨⟨hd,by omega,by omega,by omega,by omega,by omega,by omega,by omega⟩,⟨by omega,by omega,by omega,by omega,by omega,by omega,by omega,by omega,by omega,by omega,by omega⟩,⟨by omega,by omega⟩,fun _=>⟨⟨by omega,by omega,by omega,by omega,by omega,by omega⟩,fun s' hs'=>?_⟩,fun _ s' hs'=>?_⟩
 ·refine go hd hn (t:=c.k (i%(c.n:Int)).toNat) (hc.kd _) (dN.le ⟨[(0,45056),(1,69632)],rfl,rfl,rfl,aF rfl rfl (by exact .inr ⟨rfl,bG rfl (by decide)⟩) (aF rfl rfl (aE rfl ?_) trivial)⟩ hs' hk)
  rw[←hcc];rfl
 ·refine go hd hn (t:=c.k 0+nD i*(c.k (c.n-1)-c.k 0)) (LY (hh _) (hh _) (k1.mono (Nat.zero_le _) (by omega))) (dN.le ⟨[(0,45056),(1,69632)],rfl,rfl,rfl,aF rfl rfl (by exact .inr ⟨rfl,bG rfl (by decide)⟩) (aF rfl rfl (aE rfl ?_) trivial)⟩ hs' hk)
  rw[←hcc];rfl
end Go.Am.B
