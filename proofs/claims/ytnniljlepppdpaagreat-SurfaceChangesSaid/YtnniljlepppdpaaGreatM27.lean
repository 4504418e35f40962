/- brepkernellaw12.SurfaceChanges. -/
import Derived.Test.YtnniljlepppdpaaGreatY42
import Derived.Test.YtnniljlepppdpaaGreatB152
set_option linter.unusedVariables false
noncomputable section
namespace Go.Am.B
open Go Go.Am.N AV ah ax IntKind
theorem Ph:aT P SE uq (ay uq):=aU Proofs.Tryz.func5 ag ag ag
abbrev dZ (z:Nat->Int):Nat->AV:=fun i=>.int .i64 (z i)
def NI:bf:=[(aa8,iz T (nG::(K6,Pn)::(D3,jD Mv)::[]) [] 60 XV),(Vi,iz T [nG] [] 60 aod)]
def Iu:bf:=nG::(I9,QJ)::(C1,Pz)::(zD,Kx)::(Kp,NC)::(Lw,Uc)::(yV,Lk)::(CK,I3)::(L8,P3)::(Ie,PV)::(Bf,KH)::(Bz,Ts)::(NI++NL)
abbrev UL (x:Sf) (l:List Prop):List Prop:=bt (fun i=>.rat (x.ku i) 2000) x.a sU::bt (fun i=>.rat (x.kv i) 2000) x.b sU::ec (fun i=>bH (x.f i) x.m 2000) x.n sU::l
abbrev xK (x:Sf):List Prop:=(0<1)::(0<1)::UL x (UL x [JQ x x,x.n<2^30,x.m<2^30,x.a<2^30,x.b<2^30,(bif true then true else false)=true])
abbrev Cj:Code:=ay uq
abbrev G5:List Nat:=[6,7,10,11]
abbrev Jh (s:Sf) (u v:Rat):aK:=⟨aB G5 [.bool false,.ptr 0 0 5 0 [],.ptr 1 0 3 0 [],.ptr 2 0 3 0 []],[(2,tP v 100),(1,tP u 100),(0,⟨false,true,5,1,fun _=>aZ s 64 200⟩)],3⟩
theorem alr {n:Nat} {z:Nat->Int} {i j:Int}:aG T Iu [30] 60 G5 (before Cj [1,1,1,1,1]) ⟨aP 0 [.aq 1 n (dZ z),.int .i64 i,.int .i64 j],[],0⟩=
  let c18:AV:=rat 0 1;let c13:Int:=(2:Int)^63;let c12:Nat:=64+((64:Nat)+((64:Nat)+64+1))+1;let c11:Nat:=Int.toNat (0:Int);let c8:Int:=aR n (aR n (0:Int));let c7:Nat:=dG n (dZ z) (0:Int) (3:Int);let c6:Nat:=Int.toNat (2:Int);let c5:Nat:=dG n (dZ z) (aR n (0:Int)) (3:Int);let c4:Prop:=0<1;let c17:Rat:=jz n (dZ z) c8 c7 c6 c11;let c15:Int:=yJ n (dZ z) (0:Int) (3:Int) c6;let c3:Int:=fH n (dZ z) c8 c7 c6;let c2:Nat:=ju n (dZ z) c8 c7 c6;let c16:Rat:=jz n (dZ z) c3 c5 c6 c11;let c14:Nat:=c5+1+g9 n (dZ z) c3 c6;let c9:Int:=(↑c2:Int)-1;let c1:Nat:=ju n (dZ z) c3 c5 c6;let c10:Int:=(↑c1:Int)-1;some (fork (!decide ((↑n:Int)<=500)) (leaf ret ([AV.bool true,tuple [],tuple [],tuple []],[])) (aj [dj n (dZ z) (0:Int),(1:Int)<=3,(3:Int)<900,(0:Int)<=2,(2:Int)<900,c4,c4,c4] (aj [c4,c4,(0:Int)<=0/\c11<c2,c4,c4,-c13<=c9/\c9<c13,(0:Int)<=c9/\c9.toNat<c2,c4,(0:Int)<=0/\c11<c1,c4,c4,-c13<=c10/\c10<c13,(0:Int)<=c10/\c10.toNat<c1,c4,c4,c4,c4,c4,c4] (aj [c4,c4,c4,c4,c4,c4] (leaf normal ([AV.bool false,ptr 24576 0 5 0 [],ptr 94208 0 3 0 [],ptr 98304 0 3 0 []],[((98304:Nat),aS fun j_1=>if(j_1==0)=true then aV (rat (c16+mY j*(jz n (dZ z) c3 c5 c6 c10.toNat-c16)) c12)else c18),((94208:Nat),aS fun j=>if(j==0)=true then aV (rat (c17+mY i*(jz n (dZ z) c8 c7 c6 c9.toNat-c17)) c12)else c18),(24576,ak.mk false true 5 1 fun j=>if(j==0)=true then aV (agg [int i64 (↑c7:Int),int i64 (↑c5:Int),aq 3 c2 fun i=>rat (jz n (dZ z) c8 c7 c6 i) 64,aq 3 c1 fun i=>rat (jz n (dZ z) c3 c5 c6 i) 64,aq 1 (c7+1+g9 n (dZ z) c8 c6) fun i=>bH (fun j=>lQ (cF n (dZ z) c15 (3:Int)==2) n (dZ z) (jP n (dZ z) (aR n c15) (i*c14+j)) i j) c14 200])else agg [int i64 0,int i64 0,nil,nil,nil])])))))):=ag
theorem aae {s:Sf} {u v:Rat}:cj T Iu [100092,100097,100102,100107,100112,100117,100122,100127] 200 uq [part Cj [1,1,1,1,1]] (Jh s u v)=
  let o:Prop:=0<1;let R:=[bt (fun i=>.rat (s.ku i) 64) s.a 2000,bt (fun i=>.rat (s.kv i) 64) s.b 2000,ec (fun i=>bH (s.f i) s.m 200) s.n 2000];let U:=o::o::(R++[100<=2000,dr s,ej u,o]);let V:=o::o::(R++[100<=2000,dr s,ej v,o]);let E:=o::(R++[dr s,s.u<=5,o]);let H:=o::(R++[dr s,s.v<=5,o]);let d:=xK (fT eH s)++((bif true then(0:Int)==0 else false)=true)::xK (ct (fT eH (ct s)));let c:=xK (ct (fF (ct s) v))++((bif true then(0:Int)==0 else false)=true)::d;let b:=xK (fF s u)++((bif true then cV (fQ s 0) v==cV (fQ s 0) v else false)=true)::c;some (aj U (aj U (aj V (aj V (aj E (aj E (aj H (aj H (aj (((cV (cE s 0) u==cV (cE s 0) u)=true)::b) (leaf .ret [.bool true])))))))))):=ag
theorem amR:bu P NI:=aI (iU hT (cz (aI Xi (aI afl bz))) hm (aU Proofs.Tryz.func33 ag ag ag) _ _) (aI (iU hT (cz bz) hm (aU Proofs.Tryz.func34 ag ag ag) _ _) bz)
theorem Se:bu P Iu:=cz (aI aom (aI ahX (aI QT (aI aaB (aI acg (aI RE (aI T2 (aI aiH (aI acp (aI Ro (aI afw (s8 amR ae4))))))))))))
theorem EH {x:Sf} {l:List Prop} (h1:x.n<2^30) (h2:x.m<2^30) (h3:x.a<2^30) (h4:x.b<2^30) (h:aA l):aA (xK x++l):=
 dD.2 ⟨⟨Nat.zero_lt_one,Nat.zero_lt_one,bP (by decide),bP (by decide),gh (by decide),bP (by decide),bP (by decide),gh (by decide),⟨rfl,rfl,rfl,fun _ _=>rfl,rfl,fun _ _=>rfl,rfl,rfl,fun _ _ _ _=>rfl⟩,h1,h2,h3,h4,rfl⟩,h⟩
theorem jI.lt {F:Cu->Cu} {b:Bool} {t:Rat} {s:Sf} (h:jI F b t s) (hs:dr s):(fT F s).n<2^30/\(fT F s).m<2^30/\(fT F s).a<2^30/\(fT F s).b<2^30:=by
 obtain⟨x1,x2,x3,x4,x5⟩:=h.lP hs
 exact⟨x3,x2,x5,x4⟩
theorem TJ {s:Sf} {t:Rat} (hs:dr s) (ht:ej t):(fF s t).n<2^30/\(fF s t).m<2^30/\(fF s t).a<2^30/\(fF s t).b<2^30:=by
 by_cases he:cV (cE s 0) t=0
 ·rw[show fF s t=fT (fun c=>gj c t) s from if_pos he]
  exact(zu hs ht he).lt hs
 ·rw[show fF s t=tY from if_neg he]
  exact⟨by decide,by decide,by decide,by decide⟩
theorem ac1 {s:Sf} {u v:Rat} {cx:Ctx} (hs:dr s) (hu:ej u) (hv:ej v) (h5:s.u<=5) (h6:s.v<=5):aH P cx uq.ntmps [part Cj [1,1,1,1,1]] (Jh s u v) (eo cx (Fin T uq (.bool true))):=by
 refine(aH.fin hT Se hm 200 aae ag ?_).mono fun _ _ h=>.inl h
 have R:∀l:List Prop,aA l->aA ([bt (fun i=>.rat (s.ku i) 64) s.a 2000,bt (fun i=>.rat (s.kv i) 64) s.b 2000,ec (fun i=>bH (s.f i) s.m 200) s.n 2000]++l):=fun l h=>dD.2 ⟨⟨bP (by decide),bP (by decide),gh (by decide)⟩,h⟩
 have U:aA ((0<1)::(0<1)::([bt (fun i=>.rat (s.ku i) 64) s.a 2000,bt (fun i=>.rat (s.kv i) 64) s.b 2000,ec (fun i=>bH (s.f i) s.m 200) s.n 2000]++[100<=2000,dr s,ej u,0<1])):=⟨Nat.zero_lt_one,Nat.zero_lt_one,R _ ⟨by decide,hs,hu,Nat.zero_lt_one⟩⟩
 have V:aA ((0<1)::(0<1)::([bt (fun i=>.rat (s.ku i) 64) s.a 2000,bt (fun i=>.rat (s.kv i) 64) s.b 2000,ec (fun i=>bH (s.f i) s.m 200) s.n 2000]++[100<=2000,dr s,ej v,0<1])):=⟨Nat.zero_lt_one,Nat.zero_lt_one,R _ ⟨by decide,hs,hv,Nat.zero_lt_one⟩⟩
 have E:aA ((0<1)::([bt (fun i=>.rat (s.ku i) 64) s.a 2000,bt (fun i=>.rat (s.kv i) 64) s.b 2000,ec (fun i=>bH (s.f i) s.m 200) s.n 2000]++[dr s,s.u<=5,0<1])):=⟨Nat.zero_lt_one,R _ ⟨hs,h5,Nat.zero_lt_one⟩⟩
 have H:aA ((0<1)::([bt (fun i=>.rat (s.ku i) 64) s.a 2000,bt (fun i=>.rat (s.kv i) 64) s.b 2000,ec (fun i=>bH (s.f i) s.m 200) s.n 2000]++[dr s,s.v<=5,0<1])):=⟨Nat.zero_lt_one,R _ ⟨hs,h6,Nat.zero_lt_one⟩⟩
 obtain⟨a1,a2,a3,a4⟩:=TJ hs hu
 obtain⟨b1,b2,b3,b4⟩:=TJ hs.swap hv
 obtain⟨c1,c2,c3,c4⟩:=(wW hs h5).lt hs
 obtain⟨d1,d2,d3,d4⟩:=(wW hs.swap h6).lt hs.swap
 refine⟨U,U,V,V,E,E,H,H,⟨beq_self_eq_true (cV (cE s 0) u),EH a1 a2 a3 a4 ⟨beq_self_eq_true (cV (fQ s 0) v),EH b2 b1 b4 b3 ⟨rfl,EH c1 c2 c3 c4 ⟨rfl,?_⟩⟩⟩⟩,.refl _⟩
 have:=EH (x:=ct (fT eH (ct s))) (l:=[]) d2 d1 d4 d3 trivial
 rwa [List.append_nil]at this
set_option maxRecDepth 20000 in
set_option maxHeartbeats 1000000 in
theorem afI {n:Nat} {z:Nat->Int} {i j:Int} (K:Nat):aQ P SE K [.aq 1 n (fun i=>.int .i64 (z i)),.int .i64 i,.int .i64 j] [] (aJ (.bool true) []):=by
 refine fc (r:=aJ (.bool true) []) hT Ph rfl aX rfl (fun _ cx h0=>?_) K []
 have hk:=gV h0
 have hret:pF uq G5 (.bool true) ([AV.bool true,tuple [],tuple [],tuple []],[]):=⟨[.bool true],ag,bN.refl _⟩
 refine au.hole [1,1,1,1,1] ag (aH.bC hT Se hm 60 G5 alr (mS Ph.dst) ?_)
 simp only[ah.all,aA]
 refine⟨fun h s' hs'=>hret.fin hs',fun h=>?_⟩
 have hn:n<=500:=by simp only[Bool.not_eq_false',bq]at h;omega
 have hd:dj n (dZ z) 0:=⟨fun i=>rfl,aa,aa,aa⟩
 obtain⟨s,hs⟩:∃s,s=Ep (iq n (dZ z) 0 3 (Int.toNat 2)):=⟨_,rfl⟩
 have hD:dr s:=by rw[hs];exact WI hd aa aa (by decide)
 have hOK:=hD.ok
 have ta:=hD.iy
 have tb:=hD.ig
 have la:=hOK.ku.len
 have lb:=hOK.kv.len
 have pu:=hOK.ku.p1
 have pv:=hOK.kv.p1
 have u6:=gH (n:=n) (f:=dZ z) (a:=0) (m:=3) aa
 have v6:=gH (n:=n) (f:=dZ z) (a:=aR n 0) (m:=3) aa
 have u0:=gC (n:=n) (f:=dZ z) (a:=0) (m:=3) aa
 have v0:=gC (n:=n) (f:=dZ z) (a:=aR n 0) (m:=3) aa
 have e5:s.u<=5:=by rw[hs];show((1+cF n (dZ z) 0 3).toNat:Int)<=5;omega
 have e6:s.v<=5:=by rw[hs];show((1+cF n (dZ z) (aR n 0) 3).toNat:Int)<=5;omega
 have eA:ju n (dZ z) (aR n (aR n 0)) (dG n (dZ z) 0 3) (Int.toNat 2)=s.a:=by rw[hs];rfl
 have eK:jz n (dZ z) (aR n (aR n 0)) (dG n (dZ z) 0 3) (Int.toNat 2)=s.ku:=by rw[hs];rfl
 have eB:ju n (dZ z) (fH n (dZ z) (aR n (aR n 0)) (dG n (dZ z) 0 3) (Int.toNat 2)) (dG n (dZ z) (aR n 0) 3) (Int.toNat 2)=s.b:=by rw[hs];rfl
 have eL:jz n (dZ z) (fH n (dZ z) (aR n (aR n 0)) (dG n (dZ z) 0 3) (Int.toNat 2)) (dG n (dZ z) (aR n 0) 3) (Int.toNat 2)=s.kv:=by rw[hs];rfl
 have e1:((s.a:Int)-1).toNat=s.a-1:=aa
 have e2:((s.b:Int)-1).toNat=s.b-1:=aa
 have hu:ej (s.ku 0+mY i*(s.ku (s.a-1)-s.ku 0)):=Rg ((hD.c 0).h 0) ((hD.c 0).h _) (hOK.ku.mono (Nat.zero_le _) aa)
 have hv:ej (s.kv 0+mY j*(s.kv (s.b-1)-s.kv 0)):=Rg ((hD.r 0).h 0) ((hD.r 0).h _) (hOK.kv.mono (Nat.zero_le _) aa)
 simp only[eA,eK,eB,eL,e1,e2,Int.toNat_zero]
 refine⟨⟨hd,aa,aa,aa,aa,aa,aa,aa⟩,⟨aa,aa,aa,aa,aa,aa,aa,aa,aa,aa,aa,aa,aa,aa,aa,aa,aa,aa,aa⟩,⟨aa,aa,aa,aa,aa,aa⟩,fun s' hs'=>?_⟩
 rw[show behind Cj [1,1,1,1,1]=[]from by kernel_rfl]
 refine au.jn (s2:=Jh s (s.ku 0+mY i*(s.ku (s.a-1)-s.ku 0)) (s.kv 0+mY j*(s.kv (s.b-1)-s.kv 0))) (cU.le ⟨[(0,24576),(1,94208),(2,98304)],rfl,rfl,rfl,bG rfl rfl (by exact .inr ⟨rfl,dn rfl (hv.sz.more (by decide))⟩) (bG rfl rfl (by exact .inr ⟨rfl,dn rfl (hu.sz.more (by decide))⟩) (bG rfl rfl (.inr ⟨rfl,?_⟩) trivial))⟩ hs' hk) ((au.gr (ac1 hD hu hv e5 e6)).mono fun e s' h=>by cases e<;>exact h)
 rw[hs]
 exact agl
end Go.Am.B
