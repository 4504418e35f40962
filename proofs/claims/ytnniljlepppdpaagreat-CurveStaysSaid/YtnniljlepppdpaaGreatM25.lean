/- brepkernellaw10.CurveStays. -/
import Derived.Test.YtnniljlepppdpaaGreatY39
import Derived.Test.YtnniljlepppdpaaGreatY42
import Derived.Test.YtnniljlepppdpaaGreatY37
set_option linter.unusedVariables false
namespace Go.Am.B
open Go Go.Am.N AV ah aq IntKind
theorem TU:aR P Nr tr (az tr):=aS Proofs.Tryz.func3 ag ag ag
abbrev jh (z:Nat->Int):Nat->AV:=fun i=>.int .i64 (z i)
noncomputable def Gy:aX:=nG::(Gx,SI)::(DY,Tj)::(vj,Pc)::(Fx,LK)::(El,On)::(Es,Q7)::(wX,KK)::(HO,RR)::(FD,KS)::(Ir,O8)::(NW++(OT++(OQ++(Oz++vr))))
noncomputable abbrev FQ:Code:=az tr
abbrev Bp:List Nat:=[6,7,8,9,10]
abbrev stO (c:Cu):au:=⟨false,true,3,1,fun _=>bQ c 64 64⟩
abbrev adg (a b:Rat):au:=⟨false,true,6,1,fun _=>.agg [.rat a 64,.rat b 64]⟩
abbrev K3 (c:Cu) (a b t u:Rat):aJ:=⟨aE Bp [.bool false,.ptr 0 0 3 0 [],.ptr 1 0 6 0 [],.ptr 2 0 3 0 [],.ptr 3 0 3 0 []],[(3,tP u 100),(2,tP t 100),(1,adg a b),(0,stO c)],4⟩
theorem aar {n:Nat} {z:Nat->Int} {i j:Int}:aI T Gy [24] 60 Bp (before FQ [1,1,1,1,1]) ⟨aP 0 [.ak 1 n (jh z),.int .i64 i,.int .i64 j],[],0⟩=
  let c10:Int:=bP n (0:Int);let c9:AV:=rat 0 1;let c8:Nat:=Int.toNat (4:Int);let c6:Nat:=kA n (jh z) (0:Int) (4:Int);let c5:Nat:=Max.max 64 64;let c4:Prop:=0<1;let c11:Nat:=c5+((64:Nat)+(c5+c5+1))+1;let c3:Nat:=pg n (jh z) c10 c6 c8;let c2:Rat:=nI n (jh z) c10 c6 c8 (Int.toNat (0:Int));let c7:Int:=(↑c3:Int)-(1:Int);let c1:Rat:=nI n (jh z) c10 c6 c8 c7.toNat;let c12:Rat:=tc c2 c1;some (fork (!decide ((↑n:Int)<=(500:Int))) (leaf ret ([AV.bool true,tuple [],tuple [],tuple [],tuple []],[])) (aj [dr n (jh z) (0:Int),(1:Int)<=(4:Int),(4:Int)<(900:Int),(0:Int)<=(4:Int),(4:Int)<(900:Int),c4,c4,c4] (aj [c4,c4,((↑c3:Int)==(0:Int))=false,c4,(0:Int)<=(0:Int)/\Int.toNat (0:Int)<c3,c4,c4,-(2:Int)^63<=c7/\c7<(2:Int)^63,(0:Int)<=c7/\c7.toNat<c3,c4,c4,c4,c4] (aj [c4,c4,c4,c4,c4,c4] (leaf normal ([AV.bool false,ptr 24576 0 3 0 [],ptr 40960 0 6 0 [],ptr 73728 0 3 0 [],ptr 77824 0 3 0 []],[((77824:Nat),aQ fun j_1=>if(j_1==0)=true then bt (rat (c12+iX j*(o7 c2 c1-c12)) c11)else c9),((73728:Nat),aQ fun j=>if(j==0)=true then bt (rat (c12+iX i*(o7 c2 c1-c12)) c11)else c9),(40960,au.mk false true 6 1 fun j=>if(j==0)=true then bt (agg [rat c12 c5,rat (o7 c2 c1) c5])else agg [c9,c9]),((24576:Nat),aQ fun j=>if(j==0)=true then bt (agg [int i64 (↑c6:Int),ak 3 c3 fun i=>rat (nI n (jh z) c10 c6 c8 i) 64,ak 12 (c6+1+kK n (jh z) c10 c8) fun i=>bH (r9 n (jh z) (j3 n (jh z) (mT n (jh z) (0:Int) (4:Int) c8) i) false) 64])else agg [int i64 0,nil,nil])])))))):=ag
theorem afD {c:Cu} {a b t u:Rat}:cJ T Gy [44,100059,80,85,98,100128] 200 tr [part FQ [1,1,1,1,1]] (K3 c a b t u)=
  let c27:Prop:=100<=2000;let c25:Nat:=64+64+1;let c21:Prop:=fj (fun i=>bH (c.f i) 64) c.m 64;let c20:Prop:=bT (fun i=>rat (c.k i) 64) c.n 64;let c18:Nat:=c.m-1;let c14:Nat:=2^30;let c13:Bool:=decide (e9 t u<=(0:Int));let c12:Bool:=decide (e9 t u>=(0:Int));let c11:Rat:=(↑(2:Int):Rat);let c9:Prop:=100<=sK;let c7:Prop:=fj (fun i=>bH (c.f i) 64) c.m 2000;let c6:Prop:=bT (fun i=>rat (c.k i) 64) c.n 2000;let c4:Prop:=0<1;let c3:Cu:=Cu.mk c.p c.n (fun i=>aV (rat (c.k i) 64)) c.m fun i=>fF (bH (c.f i) 64);let c26:Prop:=dm c3 5;let c24:Bool:=dM c3 u==(0:Int);let c23:Cu:=ig c3 u;let c22:Cu:=iw c3 u;let c19:Cu:=fA c3 u;let c16:Nat:=100+64+1+c25;let c10:Cu:=Cu.mk (eP c3).p (eP c3).n (fun i=>aV (rat ((eP c3).k i) 2000)) (eP c3).m fun i=>fF (bH ((eP c3).f i) 2000);let c17:Prop:=fj (fun i=>bH (c23.f i) 2000) c23.m 2000;let c15:Prop:=bT (fun i=>rat (c23.k i) 2000) c23.n 2000;let c8:Prop:=jQ c3 (Cu.mk c23.p c23.n (fun i=>aV (rat (c23.k i) 2000)) c23.m fun i=>fF (bH (c23.f i) 2000)) t t;let c5:List Prop:=[c4,c4,c12=true,c4,c4,c4,c4,c6,c7,bT (fun i=>rat (c22.k i) 2000) c22.n 2000,fj (fun i=>bH (c22.f i) 2000) c22.m 2000,c9,c9,jQ c3 (Cu.mk c22.p c22.n (fun i=>aV (rat (c22.k i) 2000)) c22.m fun i=>fF (bH (c22.f i) 2000)) t t];let c2:ah (List AV):=aj [c4,c20,c21,(1:Nat)<=64,Max.max 1 (bM (Int.natAbs (2:Int)))<=64,(1:Nat)<=c.n,c.n<c14,c.m<c14,c4] (aj [c4,c4,c4,c4,c4] (aj [c4,c20,c21,c.n<c14,c.m<c14,c4] (aj [(kj 0 c11==(0:Int))=true,c4,c4,c4,c4,c4,c6,c7,bT (fun i=>rat (fY c.n (fun i=>aV (rat (c.k i) 64)) 0 c11 i) 1000) (lI c.n 0 c11) 2000,fj (fun i=>bH (fF (bH (c.f i) 64)) 1000) (lI c.m 0 c11) 2000,c9,c16+c16+1<=sK,jQ c3 (Cu.mk (if c11<=0 then(0:Int)else c.p) (lI c.n 0 c11) (fun i=>aV (rat (fY c.n (fun i=>aV (rat (c.k i) 64)) 0 c11 i) 1000)) (lI c.m 0 c11) fun i=>fF (bH (fF (bH (c.f i) 64)) 1000)) t ((t-a)/(b-a)+(t-a)/(b-a)),c4,c4,c4,c4,c4,c4,c6,c7,bT (fun i=>rat (fo c.n (fun i=>aV (rat (c.k i) 64)) i) 200) c.n 2000,fj (fun i=>bH (fF (bH (c.f (c18-i)) 64)) 100) c.m 2000,c9,c25+100+1<=sK,jQ c3 (Cu.mk c.p c.n (fun i=>aV (rat (fo c.n (fun i=>aV (rat (c.k i) 64)) i) 200)) c.m fun i=>fF (bH (fF (bH (c.f (c18-i)) 64)) 100)) t (a+b-t),c4,bT (fun i=>rat (fo c.n (fun i=>aV (rat (c.k i) 64)) i) 200) c.n 200,fj (fun i=>bH (fF (bH (c.f (c18-i)) 64)) 100) c.m 100,c.n<c14,c.m<c14,c4,bT (fun i=>rat (fo c.n (fun i=>aV (rat (fo c.n (fun i=>aV (rat (c.k i) 64)) i) 200)) i) 1000) c.n ee,fj (fun i=>bH (fF (bH (fF (bH (c.f (c18-(c18-i))) 64)) 100)) 1000) c.m ee,bT (fun i=>rat (c.k i) 64) c.n ee,fj (fun i=>bH (c.f i) 64) c.m ee,FF (Cu.mk c.p c.n (fun i=>aV (rat (fo c.n (fun i=>aV (rat (fo c.n (fun i=>aV (rat (c.k i) 64)) i) 200)) i) 1000)) c.m fun i=>fF (bH (fF (bH (fF (bH (c.f (c18-(c18-i))) 64)) 100)) 1000)) c3,c.n<2^40,c.m<2^40] (leaf ret [AV.bool true]))));let c1:ah (List AV):=aj [c4,c6,c7,c26,∀(i:Nat),lz (aV (rat (c.k i) 64)),c.n<=20,c4] (aj [(rq c3==(0:Int))=true,c4,c4,c4,c4,c6,c7,bT (fun i=>rat ((eP c3).k i) 2000) (eP c3).n 2000,fj (fun i=>bH ((eP c3).f i) 2000) (eP c3).m 2000,c9,c9,jQ c3 c10 t t,c4,bT (fun i=>rat ((eP c3).k i) 2000) (eP c3).n 2048,fj (fun i=>bH ((eP c3).f i) 2000) (eP c3).m 2048,dx c10,∀(i:Nat),i<(eP c3).m->0<aV (rat ((eP c3).f i).d 2000)] (aj [c4,c4,c6,c7,c27,c26,dD u,c.m+c.p.toNat<=40,c.p<=(4:Int),c4,c4] (fork (m7 c3 u==(0:Int)) (fork c13 (fork c12 (aj (c4::c4::(c13=true)::c4::c4::c4::c4::c6::c7::c15::c17::c9::c9::c8::c5) c2) (aj [c4,c4,c13=true,c4,c4,c4,c4,c6,c7,c15,c17,c9,c9,c8,c4,c4,c12=false] c2)) (fork c12 (aj (c4::c4::(c13=false)::c5) c2) (aj [c4,c4,c13=false,c4,c4,c12=false] c2))) c2)));some (aj [c4,c4,c6,c7,c27,c26,dD u,c4] (fork c24 (aj [c24=true,c4,c4,c4,c4,c6,c7,bT (fun i=>rat (c19.k i) 2000) c19.n 2000,fj (fun i=>bH (c19.f i) 2000) c19.m 2000,c9,c9,jQ c3 (Cu.mk c19.p c19.n (fun i=>aV (rat (c19.k i) 2000)) c19.m fun i=>fF (bH (c19.f i) 2000)) t t] c1) (aj [c24=false] c1))):=ag
theorem R9:bq P Gy:=dg (aH Y1 (aH ahJ (aH ag0 (aH Z3 (aH akN (aH alf (aH ag5 (aH ag6 (aH SW (aH alo (ta Xv (ta aiN (ta ag2 (ta aif xI))))))))))))))
theorem alr {c:Cu} {t u:Rat} {cx:Ctx} (hb:rK c) (hp:c.p<=4) (h20:c.n<=20) (hu:dD u) (hin:¬cw c.n c.k t):aG P cx tr.ntmps [part FQ [1,1,1,1,1]] (K3 c (c.k 0) (c.k (c.n-1)) t u) (ep cx (Fin T tr (.bool true))):=by
 refine(aG.fin hT R9 hm 200 afD ag ?_).mono fun _ _ h=>.inl h
 have hd:dm c 5:=hb.d
 have hh:∀i,lz (c.k i):=hb.h
 obtain⟨k1,k2,k3,k4,k5⟩:=id hd.kn
 have hl:=k1.len
 have h40:c.m+c.p.toNat<=40:=aa
 have hI:(dM c u==0)=true->jQ c (fA c u) t t:=fun h=>Va hd hu hin (beq_iff_eq.1 h)
 have hE:=aiU hd aa h20 hin
 have hEw:=amt hd aa
 have hEk:=hE.kd
 have he:(rq c==0)=true:=beq_iff_eq.2 (if_neg aa)
 have hS:(m7 c u==0)=true->(t<=u->jQ c (ig c u) t t)/\(u<=t->jQ c (iw c u) t t):=fun h=>al4 hd hu h40 hin (beq_iff_eq.1 h)
 have hA:=V8 hd.kn hin
 have hAe:(kj 0 2==0)=true:=by decide
 have hM:=aaI hd.kn hin
 have hMM:=amp (c:=c)
 simp only[ah.all,aA]
 (repeat' with_reducible first|refine And.intro ?_ ?_|intro _)
 all_goals first|omega|assumption|exact cz (by decide)|exact ir (by decide)|exact .refl _|exact trivial|decide|exact hh _|exact hEw _ (by assumption)|exact hI (by assumption)|exact(hS (by assumption)).1 (Nd.1 (of_decide_eq_true (by assumption)))|exact(hS (by assumption)).2 (vZ.1 (of_decide_eq_true (by assumption)))|skip
set_option maxRecDepth 20000 in
set_option maxHeartbeats 1000000 in
theorem WL {n:Nat} {z:Nat->Int} {i j:Int} (K:Nat):aD P Nr K [.ak 1 n (fun i=>.int .i64 (z i)),.int .i64 i,.int .i64 j] [] (aK (.bool true) []):=by
 refine iP (r:=aK (.bool true) []) hT TU rfl aW rfl (fun _ cx h0=>?_) K []
 have hk:=qw h0
 have hret:oZ tr Bp (.bool true) ([AV.bool true,tuple [],tuple [],tuple [],tuple []],[]):=⟨[.bool true],ag,bF.refl _⟩
 refine ay.hole [1,1,1,1,1] ag (aG.bB hT R9 hm 60 Bp aar (nX TU.dst) ?_)
 simp only[ah.all,aA]
 refine⟨fun h s' hs'=>hret.fin hs',fun h=>?_⟩
 have hn:n<=500:=by simp only[Bool.not_eq_false',bh]at h;omega
 have hd:dr n (jh z) 0:=⟨fun i=>rfl,aa,aa,aa⟩
 obtain⟨c,hc⟩:∃c,c=gN n (jh z) 0 4 (Int.toNat 4) false:=⟨_,rfl⟩
 obtain⟨k1,k2,k3,k4,k5,k6⟩:=Pp (m:=Int.toNat 4) (b:=false) hd (show(1:Int)<=4 by omega)
 have t4:Int.toNat 4=4:=rfl
 have hD:dm c 5:=by rw[hc];exact aam hd aa aa (by decide)
 have hH:∀i,lz (c.k i):=by rw[hc];exact fun i=>QL hd aa (by decide) i
 rw[<-hc]at k1 k2 k3 k4 k5 k6
 rw[t4]at k5
 have hl:=k1.len
 have eN:pg n (jh z) (bP n 0) (kA n (jh z) 0 4) (Int.toNat 4)=c.n:=by rw[hc];rfl
 have eK:nI n (jh z) (bP n 0) (kA n (jh z) 0 4) (Int.toNat 4)=c.k:=by rw[hc];rfl
 have e1:((c.n:Int)-1).toNat=c.n-1:=aa
 have he:c.k 0<=c.k (c.n-1):=k1.mono (Nat.zero_le _) aa
 have hmin:tc (c.k 0) (c.k (c.n-1))=c.k 0:=by unfold tc;split<;>grind
 have hmax:o7 (c.k 0) (c.k (c.n-1))=c.k (c.n-1):=by unfold o7;split<;>grind
 have ht:dD (c.k 0+iX i*(c.k (c.n-1)-c.k 0)):=Pk (hH 0) (hH _) he
 have hu:dD (c.k 0+iX j*(c.k (c.n-1)-c.k 0)):=Pk (hH 0) (hH _) he
 simp only[eN,eK,e1,Int.toNat_zero,hmin,hmax]
 refine⟨⟨hd,aa,aa,aa,aa,aa,aa,aa⟩,⟨aa,aa,beq_eq_false_iff_ne.2 aa,aa,aa,aa,aa,aa,aa,aa,aa,aa,aa⟩,⟨aa,aa,aa,aa,aa,aa⟩,fun s' hs'=>?_⟩
 rw[show behind FQ [1,1,1,1,1]=[]from by kernel_rfl]
 refine ay.kO (s2:=K3 c (c.k 0) (c.k (c.n-1)) (c.k 0+iX i*(c.k (c.n-1)-c.k 0)) (c.k 0+iX j*(c.k (c.n-1)-c.k 0))) (ej.le ⟨[(0,24576),(1,40960),(2,73728),(3,77824)],rfl,rfl,rfl,cD rfl rfl (by exact .inr ⟨rfl,dc rfl (hu.sz.more (by decide))⟩) (cD rfl rfl (by exact .inr ⟨rfl,dc rfl (ht.sz.more (by decide))⟩) (aM (cD rfl rfl (cQ rfl ?_) trivial)))⟩ hs' hk) ((ay.m8 (alr ⟨hD,hH⟩ aa aa hu k1.X4)).mono fun e s' h=>by cases e<;>exact h)
 rw[hc];rfl
end Go.Am.B
