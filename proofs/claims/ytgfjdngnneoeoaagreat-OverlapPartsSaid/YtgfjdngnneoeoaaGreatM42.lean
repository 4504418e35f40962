/- brepkernellaw20.OverlapParts, but for awake. -/
import Derived.Test.YtgfjdngnneoeoaaGreatM41
import Derived.Test.YtgfjdngnneoeoaaGreatY44
import Derived.Test.YtgfjdngnneoeoaaGreatY46
set_option linter.unusedVariables false
namespace Go.Am.B
open Go Go.Am.N AV ag aq IntKind Proofs.Tryz
theorem W9:aX 4 f4:=aM func4
noncomputable def Gq:aV:=nG::(5,Hx)::(6,Jv)::(8,JB)::(7,kW Ch)::(9,A9)::(11,cQ T (sG::jU) [100010] 60 f11)::(12,MH)::(13,fL kV kV qe gd)::(14,Mb)::[]
theorem Zl {n:Nat} {z:Nat->Int}:bF T Gq [23,200048,200054,200059,61,94,102,100109,100113,100117,100121,123,100127,100133,100137] 200 f4 (aF f4) ⟨aS 0 [.ak 1 n (fun i=>.int .i64 (z i))],[],0⟩=
  let c56:Int:=mz n (fun i=>int i64 (z i)) (0:Int);let c55:Int:=ew n (fun i=>int i64 (z i)) (0:Int);let c54:V3:=gJ n (fun i=>int i64 (z i)) (0:Int);let c33:Prop:=(bif true then true else false)=true;let c31:Prop:=sE<=sE;let c29:ag (List AV):=leaf ret [AV.bool true];let c28:Int:=kG n (fun i=>int i64 (z i)) (0:Int);let c27:Rat:=aC (rat (eC n (fun i=>int i64 (z i)) (0:Int)) 1000);let c26:Prop:=((0:Int)==0)=true;let c23:Prop:=bQ (fun i=>rat (bh i) 1000) 4 1000;let bK:Rat:=aC (rat (bh 3) 1000);let c19:Int:=cU n (fun i=>int i64 (z i)) (0:Int);let c17:Prop:=sE<2^38;let c16:Rat:=aC (rat (bh 0) 1000);let c14:Prop:=0<1;let c12:Prop:=(bif true then(0:Int)==0 else false)=true;let c45:V3:=gJ n (fun i=>int i64 (z i)) c19;let c44:Rat:=aC (rat (eC n (fun i=>int i64 (z i)) c19) 1000)-c27;let c24:Int:=dU n (fun i=>int i64 (z i)) c56 (6:Int);let c22:Rat:=aC (rat (eC n (fun i=>int i64 (z i)) c55) 1000);let c18:Rat:=aC (rat (eC n (fun i=>int i64 (z i)) (ew n (fun i=>int i64 (z i)) c55)) 1000);let c10:V3:=if c28>0 then yh n (fun i=>int i64 (z i)) (0:Int)else gJ n (fun i=>int i64 (z i)) (cU n (fun i=>int i64 (z i)) (cU n (fun i=>int i64 (z i)) c19));let c9:Int:=dU n (fun i=>int i64 (z i)) (b9 n c56) (3:Int);let c59:Prop:=c9=2;let c51:Rat:=if c24=5 then 2 else 1;let c34:Rat:=aC (rat (eC n (fun i=>int i64 (z i)) (ew n (fun i=>int i64 (z i)) c19)) 1000)-c22;let c32:Rat:=aC (rat (eC n (fun i=>int i64 (z i)) (ew n (fun i=>int i64 (z i)) (ew n (fun i=>int i64 (z i)) c19))) 1000)-c18;let c8:V3:=if c28>0 then if c28=2 then c45 else xV n (fun i=>int i64 (z i)) (0:Int)else gJ n (fun i=>int i64 (z i)) (cU n (fun i=>int i64 (z i)) c19);let c42:Rat:=aC (rat c8.z 1000);let c41:Rat:=aC (rat c8.x 1000);let c40:Rat:=aC (rat c8.y 1000);let c25:Prop:=ej (fun i=>aJ (dy c8 c10 1 i) 1000) 2 1000;let c21:Prop:=bQ (fun i=>rat ((if c59 then iL else bh) i) 1000) 4 1000;let c15:Rat:=aC (rat ((if c59 then iL else bh) 3) 1000);let c13:Rat:=aC (rat ((if c59 then iL else bh) 0) 1000);let c11:Prop:=ej (fun i=>aJ (dy c54 c45 c51 i) 1000) 2 1000;let c4:Cu:=Cu.mk (1:Int) 4 (fun i=>aC (rat (bh i) 1000)) 2 fun i=>aT (aJ (dy c54 c45 c51 i) 1000);let c1:Cu:=Cu.mk (1:Int) 4 (fun i=>aC (rat ((if c59 then iL else bh) i) 1000)) 2 fun i=>aT (aJ (dy c8 c10 1 i) 1000);let c60:Rat:=aC (rat c10.z 1000)-c42;let c58:Rat:=aC (rat c10.y 1000)-c40;let c57:Rat:=aC (rat c10.x 1000)-c41;let c39:Rat:=(e9 c4 c1).snd;let c38:Rat×Rat:=ic c4 c1;let c37:Rat:=(e9 c4 c1).fst;let c53:Rat:=(c39-c16)/(bK-c16);let c52:Rat:=(c37-c16)/(bK-c16);let c47:Rat:=(c38.fst-c13)/(c15-c13);let c46:Rat:=(c38.snd-c13)/(c15-c13);let c7:V3:=V3.mk (c27+c53*c44) (c22+c53*c34) (c18+c53*c32);let c6:V3:=V3.mk (c27+c52*c44) (c22+c52*c34) (c18+c52*c32);let c5:V3:=V3.mk (c41+c47*c57) (c40+c47*c58) (c42+c47*c60);let c2:V3:=V3.mk (c41+c46*c57) (c40+c46*c58) (c42+c46*c60);let c48:List Prop:=[c14,c14,c31,c31,c31,c31,c17,c17,dY c6 c2=false];let c36:List Prop:=[c14,c14,c31,c31,c31,c31,c17,c17,dY c6 c2=true,c14,c14,c31,c31,c31,c31,c17,c17];let c30:Bool:=bif true then dY c7 c2 else false;let c3:List Prop:=[c14,c14,c31,c31,c31,c31,c17,c17,(bif true then !dY c6 c7 else false)=true,c14,c23,c11,er c4,c33];let c50:ag (List AV):=aj (c26::c12::c12::c12::(c30=true)::c33::c3) c29;let c49:ag (List AV):=aj (c26::c12::c12::c12::(false=true)::c33::c3) c29;let c43:List Prop:=((bif true then bif false then true else false else false)=true)::c3;let c35:List Prop:=((bif true then bif false then true else bif true then dY c7 c5 else false else false)=true)::c3;some (fork (!decide ((↑n:Int)<=500)) c29 (aj [dK n (fun i=>int i64 (z i)) (0:Int),c14,c14] (aj [c14,c14,c23,c11,c21,c25,er c4,er c1,c16<bK,c13<c15,c14,c14] (aj [c14,c14,c21,c25,c23,c11,er c1,er c4,c13<c15,c16<bK,c14,c14] (aj [(dO c4 c1 !=dO c1 c4)=false,c14,c14,decide (c37=(ic c1 c4).fst)=true,(bif false then true else !bif true then decide (c39=(ic c1 c4).snd)else false)=false,c14,c14,decide (c38.fst=(e9 c1 c4).fst)=true] (aj [(bif false then true else !bif true then decide (c38.snd=(e9 c1 c4).snd)else false)=false] (fork (!dO c4 c1) c29 (aj [c14,c14,c23,c11,iI<=iI,jG c4,c16<=c37,c37<=bK,Sz c37 sK,c14] (aj [c14,c14,c23,c11,iI<=iI,jG c4,c16<=c39,c39<=bK,Sz c39 sK,c14] (aj [c14,c14,c21,c25,iI<=iI,jG c1,c13<=c38.fst,c38.fst<=c15,Sz c38.fst sK,c14] (aj [c14,c14,c21,c25,iI<=iI,jG c1,c13<=c38.snd,c38.snd<=c15,Sz c38.snd sK,c14] (fork (dY c6 c5) (aj [c14,c14,c31,c31,c31,c31,c17,c17,dY c6 c5=true,c14,c14,c31,c31,c31,c31,c17,c17] (fork (dY c6 c2) (aj c36 (fork c30 c50 (aj (c26::c12::c12::c12::(c30=false)::c35) c29))) (aj c48 (fork c30 c50 (aj (c26::c12::c12::c12::(c30=false)::c43) c29))))) (aj [c14,c14,c31,c31,c31,c31,c17,c17,dY c6 c5=false] (fork (dY c6 c2) (aj c36 (fork false c49 (aj (c26::c12::c12::c12::(false=false)::c35) c29))) (aj c48 (fork false c49 (aj (c26::c12::c12::c12::(false=false)::c43) c29))))))))))))))))):=ah
theorem aea:bg P Gq:=eP (aE agJ (aE QY (aE RT (aE agL (aE Nr (aE (cT hT (cB j8) hm (aM func11) _ _) (aE agR (aE (fQ MJ) (aE Pt bD)))))))))
theorem od {n:Nat} {f:Nat->AV} {a:Int}:gp (gJ n f a) 3:=⟨xP,xP,xP⟩
theorem gp.more {v:V3} {a b:Nat} (h:gp v a) (hab:a<=b):gp v b:=⟨h.1.more hab,h.2.1.more hab,h.2.2.more hab⟩
theorem Kx {a b:V3} {s:Rat} (ha:gp a 3) (hb:gp b 3) (hs:Sz s 3):gp (iU a (fZ s (bV b a))) 14:=
 ⟨(ha.1.add (hs.mul (hb.1.sub ha.1))).more (by decide),(ha.2.1.add (hs.mul (hb.2.1.sub ha.2.1))).more (by decide),(ha.2.2.add (hs.mul (hb.2.2.sub ha.2.2))).more (by decide)⟩
theorem P5 {n:Nat} {f:Nat->AV} {a:Int}:gp ((bK n f a).f 0).n 14/\gp ((bK n f a).f 1).n 14:=⟨od.more (by decide),od.more (by decide)⟩
theorem Rg {n:Nat} {f:Nat->AV} {a:Int}:gp ((d20 n f a).f 0).n 14/\gp ((d20 n f a).f 1).n 14:=by
 constructor
 ·show gp (if kG n f a>0 then(if kG n f a=2 then gJ n f (cU n f a)else xV n f a)else gJ n f (cU n f (cU n f a))) 14
  split
  ·split
   ·exact od.more (by decide)
   ·exact Kx od od xP
  ·exact od.more (by decide)
 ·show gp (if kG n f a>0 then yh n f a else gJ n f (cU n f (cU n f (cU n f a)))) 14
  split
  ·exact Kx od od xP
  ·exact od.more (by decide)
theorem HM {k:Nat->Rat} {A B:V3} {w:Rat} (h1:k 0=k 1) (h2:k 2=k 3) (h3:k 0<k 3) (hw:w=1):jG (aU k (dy A B w)):=by
 subst hw
 exact⟨jz,h1,h2,h3,rfl,rfl⟩
theorem Rl {k:Nat->Rat} {A B:V3} {w:Rat} (h:iG (aU k (dy A B w))=true):w=1:=by
 unfold iG at h
 simp only[Bool.and_eq_true,bz]at h
 exact h.1
theorem X7 {n:Nat} {f:Nat->AV} {a:Int} (h:dO (bK n f a) (d20 n f a)=true):jG (bK n f a):=by
 unfold dO kj at h
 simp only[Bool.and_eq_true]at h
 have hs:=h.1.1
 exact HM (by decide+kernel) (by decide+kernel) (by decide+kernel) (Rl hs)
theorem WO (q:Prop) [Decidable q]:((if q then iL else bh) 0=(if q then iL else bh) 1/\(if q then iL else bh) 2=(if q then iL else bh) 3/\(if q then iL else bh) 0<(if q then iL else bh) 3)/\Sz ((if q then iL else bh) 0) 14/\Sz ((if q then iL else bh) 3) 14:=by
 unfold Sz;split<;>decide+kernel
theorem LY {n:Nat} {f:Nat->AV} {a:Int}:(d20 n f a).k=(if dU n f (b9 n (mz n f a)) 3=2 then iL else bh):=by simp only[d20]
theorem Rx {n:Nat} {f:Nat->AV} {a:Int}:jG (d20 n f a)/\Sz ((d20 n f a).k 0) 14/\Sz ((d20 n f a).k 3) 14:=by
 obtain⟨⟨h1,h2,h3⟩,h4,h5⟩:=WO (dU n f (b9 n (mz n f a)) 3=2)
 rw[LY]
 exact⟨HM (w:=1) h1 h2 h3 (by decide+kernel),h4,h5⟩
set_option maxRecDepth 100000 in
theorem RH {n:Nat} {z:Nat->Int} (K:Nat):aN P 4 K [.ak 1 n (fun i=>.int .i64 (z i))] [] (aH (.bool true) []):=by
 refine bM (r:=aH (.bool true) []) hT aea hm W9 rfl aW rfl 200 Zl (fun _=>?_) K []
 have hd:(n:Int)<=500->dK n (fun i=>.int .i64 (z i)) 0:=fun h=>⟨fun i=>rfl,aa,aa,aa⟩
 generalize hF:(fun i:Nat=>AV.int .i64 (z i))=F at*
 obtain⟨lk,dk0,dk3⟩:=Rx (n:=n) (f:=F) (a:=0)
 have ck:(bK n F 0).k 0<(bK n F 0).k 3:=by show bh 0<bh 3;decide+kernel
 have ck0:Sz ((bK n F 0).k 0) 14:=by show Sz (bh 0) 14;unfold Sz;decide+kernel
 have ck3:Sz ((bK n F 0).k 3) 14:=by show Sz (bh 3) 14;unfold Sz;decide+kernel
 have dk:=lk.2.2.2.1
 have cl:=@X7 n F 0
 obtain⟨c0,c1⟩:=P5 (n:=n) (f:=F) (a:=0)
 obtain⟨d0,d1⟩:=Rg (n:=n) (f:=F) (a:=0)
 obtain⟨s1,s2⟩:=IZ ck c0 c1 d0 d1 ck0 ck3
 obtain⟨s3,s4⟩:=IZ dk d0 d1 c0 c1 dk0 dk3
 have w1:=L7 (c:=bK n F 0) dk
 have w2:=L7 (c:=d20 n F 0) ck
 have w3:=F3 (c:=bK n F 0) (d:=d20 n F 0)
 have i1:=NT (d:=d20 n F 0) ck
 have i2:=NT (d:=bK n F 0) dk
 have r1:∀(k:Nat->Rat),bQ (fun i=>.rat (k i) 1000) 4 1000:=fun _=>cV aR
 have r2:∀(f:Nat->Pl),ej (fun i=>aJ (f i) 1000) 2 1000:=fun _=>jt aR
 have r3:∀(k:Nat->Rat) (f:Nat->Pl),er (aU k f):=fun _ _=>jz
 have r5:sE<2^38:=by decide
 have w4:=congrArg Prod.fst w1
 have w5:=congrArg Prod.snd w1
 have w6:=congrArg Prod.fst w2
 have w7:=congrArg Prod.snd w2
 have q1:dO (bK n F 0) (d20 n F 0)=true->(dY (gi (bK n F 0) (e9 (bK n F 0) (d20 n F 0)).1) (gi (d20 n F 0) (ic (bK n F 0) (d20 n F 0)).1)=true/\dY (gi (bK n F 0) (e9 (bK n F 0) (d20 n F 0)).2) (gi (d20 n F 0) (ic (bK n F 0) (d20 n F 0)).2)=true)\/(dY (gi (bK n F 0) (e9 (bK n F 0) (d20 n F 0)).1) (gi (d20 n F 0) (ic (bK n F 0) (d20 n F 0)).2)=true/\dY (gi (bK n F 0) (e9 (bK n F 0) (d20 n F 0)).2) (gi (d20 n F 0) (ic (bK n F 0) (d20 n F 0)).1)=true):=fun hc=>(KN (d:=d20 n F 0) ck dk hc).1.imp (fun h=>⟨lX.2 h.1,lX.2 h.2⟩) (fun h=>⟨lX.2 h.1,lX.2 h.2⟩)
 have q2:dO (bK n F 0) (d20 n F 0)=true->dY (gi (bK n F 0) (e9 (bK n F 0) (d20 n F 0)).1) (gi (bK n F 0) (e9 (bK n F 0) (d20 n F 0)).2)=false:=fun hc=>Bool.eq_false_iff.2 fun e=>(KN (d:=d20 n F 0) ck dk hc).2 (lX.1 e)
 have ec:(⟨1,4,fun i=>bh i,2,fun i=>dy (gJ n F 0) (gJ n F (cU n F 0)) (if dU n F (mz n F 0) 6=5 then 2 else 1) i⟩:Cu)=bK n F 0:=by unfold bK;rfl
 have ed:(⟨1,4,fun i=>(if dU n F (b9 n (mz n F 0)) 3=2 then iL else bh) i,2,fun i=>dy (if kG n F 0>0 then(if kG n F 0=2 then gJ n F (cU n F 0)else xV n F 0)else gJ n F (cU n F (cU n F 0))) (if kG n F 0>0 then yh n F 0 else gJ n F (cU n F (cU n F (cU n F 0)))) 1 i⟩:Cu)=d20 n F 0:=by unfold d20;rfl
 have i3:er (bK n F 0):=jz
 have i4:er (d20 n F 0):=jz
 simp only[ag.all,au,k8,G9,ec,ed,w3,w1,w2,bne_self_eq_false]
 rw[w1]at q1
 have dk2:=dk
 rw[LY]at dk2 i2
 refine⟨fun _=>.refl _,fun h=>⟨?_,?_,?_,?_,?_,fun _=>.refl _,fun hc=>?_⟩⟩
 ·exact⟨hd (by simpa using h),Nat.zero_lt_one,Nat.zero_lt_one⟩
 ·(repeat' with_reducible refine And.intro ?_ ?_)
  all_goals first|exact Nat.zero_lt_one|exact r1 _|exact r2 _|(with_reducible assumption)|exact ck|exact dk2|exact trivial
 ·(repeat' with_reducible refine And.intro ?_ ?_)
  all_goals first|exact Nat.zero_lt_one|exact r1 _|exact r2 _|(with_reducible assumption)|exact ck|exact dk2|exact trivial
 ·(repeat' with_reducible refine And.intro ?_ ?_)
  all_goals first|exact Nat.zero_lt_one|exact trivial|rfl|simp
 ·simp
 have hc:dO (bK n F 0) (d20 n F 0)=true:=by simpa using hc
 replace cl:=cl hc
 replace q1:=q1 hc
 replace q2:=q2 hc
 replace i1:=i1 hc
 replace i2:=i2 (w3.trans hc)
 have q3:(!dY (gi (bK n F 0) (e9 (bK n F 0) (d20 n F 0)).1) (gi (bK n F 0) (e9 (bK n F 0) (d20 n F 0)).2))=true:=by rw[q2];rfl
 refine⟨?_,?_,?_,?_,fun a1=>⟨?_,fun a2=>⟨?_,fun a3=>?_,fun a3=>?_⟩,fun a2=>⟨?_,fun a3=>?_,fun a3=>?_⟩⟩,fun a1=>⟨?_,fun a2=>⟨?_,fun a3=>?_,fun a3=>?_⟩,fun a2=>⟨?_,fun a3=>?_,fun a3=>?_⟩⟩⟩
 ·exact⟨Nat.zero_lt_one,Nat.zero_lt_one,r1 _,r2 _,aR,cl,i1.1,i1.2.1,s1,Nat.zero_lt_one⟩
 ·exact⟨Nat.zero_lt_one,Nat.zero_lt_one,r1 _,r2 _,aR,cl,i1.2.2.1,i1.2.2.2,s2,Nat.zero_lt_one⟩
 ·exact⟨Nat.zero_lt_one,Nat.zero_lt_one,r1 _,r2 _,aR,lk,i2.1,i2.2.1,s3,Nat.zero_lt_one⟩
 ·exact⟨Nat.zero_lt_one,Nat.zero_lt_one,r1 _,r2 _,aR,lk,i2.2.2.1,i2.2.2.2,s4,Nat.zero_lt_one⟩
 ·exact⟨Nat.zero_lt_one,Nat.zero_lt_one,aR,aR,aR,aR,r5,r5,a1,Nat.zero_lt_one,Nat.zero_lt_one,aR,aR,aR,aR,r5,r5⟩
 ·exact⟨Nat.zero_lt_one,Nat.zero_lt_one,aR,aR,aR,aR,r5,r5,a2,Nat.zero_lt_one,Nat.zero_lt_one,aR,aR,aR,aR,r5,r5⟩
 ·exact⟨⟨rfl,rfl,rfl,rfl,a3,rfl,Nat.zero_lt_one,Nat.zero_lt_one,aR,aR,aR,aR,r5,r5,q3,Nat.zero_lt_one,r1 _,r2 _,i3,rfl⟩,.refl _⟩
 ·rcases q1 with⟨e1,e2⟩|⟨e1,e2⟩
  ·exact absurd (e2.symm.trans a3) (by decide)
  ·exact⟨⟨rfl,rfl,rfl,rfl,a3,e2,Nat.zero_lt_one,Nat.zero_lt_one,aR,aR,aR,aR,r5,r5,q3,Nat.zero_lt_one,r1 _,r2 _,i3,rfl⟩,.refl _⟩
 ·exact⟨Nat.zero_lt_one,Nat.zero_lt_one,aR,aR,aR,aR,r5,r5,a2⟩
 ·exact⟨⟨rfl,rfl,rfl,rfl,a3,rfl,Nat.zero_lt_one,Nat.zero_lt_one,aR,aR,aR,aR,r5,r5,q3,Nat.zero_lt_one,r1 _,r2 _,i3,rfl⟩,.refl _⟩
 ·rcases q1 with⟨e1,e2⟩|⟨e1,e2⟩
  ·exact absurd (e2.symm.trans a3) (by decide)
  ·exact absurd (e1.symm.trans a2) (by decide)
 ·exact⟨Nat.zero_lt_one,Nat.zero_lt_one,aR,aR,aR,aR,r5,r5,a1⟩
 ·exact⟨Nat.zero_lt_one,Nat.zero_lt_one,aR,aR,aR,aR,r5,r5,a2,Nat.zero_lt_one,Nat.zero_lt_one,aR,aR,aR,aR,r5,r5⟩
 ·exact absurd a3 (by decide)
 ·rcases q1 with⟨e1,e2⟩|⟨e1,e2⟩
  ·exact absurd (e1.symm.trans a1) (by decide)
  ·exact⟨⟨rfl,rfl,rfl,rfl,a3,e2,Nat.zero_lt_one,Nat.zero_lt_one,aR,aR,aR,aR,r5,r5,q3,Nat.zero_lt_one,r1 _,r2 _,i3,rfl⟩,.refl _⟩
 ·exact⟨Nat.zero_lt_one,Nat.zero_lt_one,aR,aR,aR,aR,r5,r5,a2⟩
 ·exact absurd a3 (by decide)
 ·rcases q1 with⟨e1,e2⟩|⟨e1,e2⟩
  ·exact absurd (e1.symm.trans a1) (by decide)
  ·exact absurd (e1.symm.trans a2) (by decide)
end Go.Am.B
