/- brepkernellaw10. -/
import Derived.Test.YtppeigelbecpbaaGreatY39
import Derived.Test.YtppeigelbecpbaaGreatY43
import Derived.Test.YtppeigelbecpbaaGreatY42
set_option linter.unusedVariables false
namespace Go.Am.B
open Go Go.Am.N AV ah au IntKind
theorem Qd:aT P Qq tB (aA tB):=aY Proofs.Tryz.func6 ag ag ag
abbrev xN (z:Nat->Int):Nat->AV:=fun i=>.int .i64 (z i)
noncomputable def GK:bg:=nG::(Kg,NM)::(FH,NF)::(IJ,R8)::(C2,iW KJ)::(DC,DV)::(xE,DV)::(Dq,Lk)::(B6,Gn)::(Dd,Gn)::(JN,R5)::[]
noncomputable abbrev C1:Code:=aA tB
abbrev D6:List Nat:=[2,3]
abbrev Hw (c:Cu):aM:=⟨aC D6 [.bool false,.ptr 0 0 3 0 []],[(0,⟨false,true,3,1,fun _=>aS c 64 64⟩)],1⟩
theorem aeR {n:Nat} {z:Nat->Int}:aH T GK [10] 60 D6 (before C1 [1,1,1]) ⟨aQ 0 [.aq 1 n (xN z)],[],0⟩=
  some (fork (!decide ((↑n:Int)<=(500:Int))) (leaf ret ([AV.bool true,tuple []],[])) (aj [dh n (xN z) (0:Int),(1:Int)<=(6:Int),(6:Int)<(900:Int),(0:Int)<=(3:Int),(3:Int)<(900:Int),(0:Nat)<1] (leaf normal ([AV.bool false,ptr 28672 0 3 0 []],[((28672:Nat),aJ fun j=>if(j==0)=true then aV (aS (gp n (xN z) (0:Int) (6:Int) (Int.toNat (3:Int)) false) 64 64)else agg [int i64 0,nil,nil])])))):=ag
theorem afB {c:Cu}:cw T GK [100028,100033,100040] 200 tB [part C1 [1,1,1]] (Hw c)=
  let c12:Prop:=(bif true then true else false)=true;let c11:Prop:=c.m+(c.p.toNat+c.p.toNat)<=40;let c10:Nat:=2^30;let c7:Prop:=0<1;let c6:Prop:=fT (fun i=>bE (c.f i) 64) c.m 2000;let c5:Prop:=bP (fun i=>rat (c.k i) 64) c.n 2000;let c4:Nat:=bn (fun i=>aR (rat (c.k i) 64)) c.n-1;let c1:Cu:=Cu.mk c.p c.n (fun i=>aR (rat (c.k i) 64)) c.m fun i=>gG (bE (c.f i) 64);let c9:Prop:=fT (fun i=>bE ((fc c1).f i) 2000) (fc c1).m sE;let c8:Prop:=bP (fun i=>rat ((fc c1).k i) 2000) (fc c1).n sK;let c3:Cu:=Cu.mk (fc c1).p (fc c1).n (fun i=>aR (rat ((fc c1).k i) 2000)) (fc c1).m fun i=>gG (bE ((fc c1).f i) 2000);let c2:List Prop:=[c7,c5,c6,fY c1 5,∀(i:Nat),kT (aR (rat (c.k i) 64)),c.n<=20,c7];some (aj c2 (aj c2 (aj [(jE c1==jE c1)=true,c7,c7,c8,c9,c8,c9,c3=c3,(fc c1).n<c10,(fc c1).m<c10,c12,c7,c5,c6,fX c1,c11,c7,c5,c6,fX c1,c11,∀(i:Nat),i<c4->bG (aS (gJ c1 (bH (fun i=>aR (rat (c.k i) 64)) c.n) i) 2000 sE) (aS (wq (aS (gJ c1 (bH (fun i=>aR (rat (c.k i) 64)) c.n) i) 2000 sE)) 2000 sE),∀(i:Nat),i<c4->bG (aS (gJ c1 (bH (fun i=>aR (rat (c.k i) 64)) c.n) i) 2000 sE) (aS (wq (aS (gJ c1 (bH (fun i=>aR (rat (c.k i) 64)) c.n) i) 2000 sE)) 2000 sE),c4=c4,c4<c10,∀(i:Nat),i<c4->wq (aS (gJ c1 (bH (fun i=>aR (rat (c.k i) 64)) c.n) i) 2000 sE)=wq (aS (gJ c1 (bH (fun i=>aR (rat (c.k i) 64)) c.n) i) 2000 sE)/\c.p.toNat+1+(c.p.toNat+1)<c10/\c.p.toNat+1<c10,c12] (leaf ret [AV.bool true])))):=ag
theorem Pt:bz P GK:=cZ (aL WM (aL ald (aL Yd (aL V0 (aL akW (aL acU (aL Qc (aL WQ (aL akY (aL agb bO))))))))))
theorem Wo {c:Cu}:(fc c).n<=c.n+c.n/\(fc c).m<=c.n+c.n:=by
 unfold fc
 split
 ·exact⟨Nat.zero_le _,Nat.zero_le _⟩
 ·have hg:=vj (k:=c.k) (n:=c.n) (i:=c.n)
  exact⟨show c.n+bU c.k c.n c.n<=_ by omega,show c.n+bU c.k c.n c.n-(c.p.toNat+1)-1<=_ by omega⟩
theorem aap {c:Cu} {cx:Ctx} (hb:fX c) (h20:c.n<=20) (h40:c.m+(c.p.toNat+c.p.toNat)<=40):aI P cx tB.ntmps [part C1 [1,1,1]] (Hw c) (dP cx (Fin T tB (.bool true))):=by
 refine(aI.fin hT Pt hm 200 afB ag ?_).mono fun _ _ h=>.inl h
 have hN:=mW (k:=c.k) (n:=c.n)
 have hd:fY c 5:=hb.d
 have hh:∀i,kT (c.k i):=hb.h
 obtain⟨k1,k2,k3,k4,k5⟩:=id hd.kn
 obtain⟨q1,q2⟩:=Wo (c:=c)
 have b1:(fc c).n<2^30:=aa
 have b2:(fc c).m<2^30:=aa
 have b3:bn c.k c.n-1<2^30:=aa
 simp only[ah.all,az]
 (repeat' with_reducible refine And.intro ?_ ?_)
 all_goals first|omega|assumption|exact bY (by decide)|exact iM (by decide)|exact beq_self_eq_true (jE c)|exact rfl|exact fun _ _=>.refl _|exact .refl _|exact trivial|exact fun _ _=>⟨trivial,aa,aa⟩
set_option maxRecDepth 20000 in
set_option maxHeartbeats 1000000 in
theorem ahm {n:Nat} {z:Nat->Int} (K:Nat):aE P Qq K [.aq 1 n (fun i=>.int .i64 (z i))] [] (aK (.bool true) []):=by
 refine gr (r:=aK (.bool true) []) hT Qd rfl aX rfl (fun _ cx h0=>?_) K []
 have hk:=m7 h0
 have hret:oP tB D6 (.bool true) ([AV.bool true,tuple []],[]):=⟨[.bool true],ag,bG.refl _⟩
 refine ax.hole [1,1,1] ag (aI.bA hT Pt hm 60 D6 aeR (nZ Qd.dst) ?_)
 simp only[ah.all,az]
 refine⟨fun h s' hs'=>hret.fin hs',fun h=>?_⟩
 have hn:n<=500:=by simp only[Bool.not_eq_false',aZ]at h;omega
 have hd:dh n (xN z) 0:=⟨fun i=>rfl,aa,aa,aa⟩
 refine⟨⟨hd,aa,aa,aa,aa,aa⟩,fun s' hs'=>?_⟩
 obtain⟨c,hc⟩:∃c,c=gp n (xN z) 0 6 (Int.toNat 3) false:=⟨_,rfl⟩
 obtain⟨k1,k2,k3,k4,k5,k6⟩:=QV (m:=Int.toNat 3) (b:=false) hd (show(1:Int)<=6 by omega)
 have t3:Int.toNat 3=3:=rfl
 have hD:fY c 5:=by rw[hc];exact aiS hd aa aa (by decide)
 have hH:∀i,kT (c.k i):=by rw[hc];exact fun i=>SA hd aa (by decide) i
 rw[<-hc]at k1 k2 k3 k4 k5 k6
 rw[t3]at k5
 have hl:=k1.len
 rw[show behind C1 [1,1,1]=[]from by kernel_rfl]
 refine ax.jA (s2:=Hw c) (cP.le ⟨[(0,28672)],rfl,rfl,rfl,bD rfl rfl (cL rfl ?_) trivial⟩ hs' hk) ((ax.j3 (aap ⟨hD,hH⟩ aa aa)).mono fun e s' h=>by cases e<;>exact h)
 rw[hc];rfl
end Go.Am.B
