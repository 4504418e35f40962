/- brepkernellaw12.SurfaceEvals. -/
import Derived.Test.YtppeigelbecpbaaGreatY53
set_option linter.unusedVariables false
namespace Go.Am.B
open Go Go.Am.N AV aa aj IntKind
theorem Ng:aO P De m9 (aq m9):=aP Qq (by kernel_rfl) (by kernel_rfl) (by kernel_rfl)
noncomputable def LB:aS:=[(L5,fL T (nG::(A1,GU)::(x5,gA Co)::[]) [] 60 FB)]
noncomputable def Ia:aS:=[(LI,fL T (nG::FD) [200005] 60 Nh)]
noncomputable def HO:aS:=[(FK,fL T [nG] [] 60 MP),(Jr,fL T (nG::Ia) [] 60 Jz),(M6,fL T (sG::lQ) [100010] 60 Mg),(EK,fL T (sG::lQ) [100010,100017] 60 BX)]
noncomputable def B6:aS:=nG::(Bv,Gu)::(uh,JT)::(o9,zy)::(A3,MR)::(yK,E9)::(AQ,Hy)::(oZ,zK)::(sS,Dn)::(AF,J5)::(qL,Em)::(A2,GB)::(LB++(HO++K8))
noncomputable abbrev vc:Code:=aq m9
abbrev BK:List Nat:=[8,1,2,3,9]
abbrev CP (s:Sf) (i j k:Int):aE:=⟨aB BK [.bool false,.int .i64 i,.int .i64 j,.int .i64 k,.ptr 0 0 5 0 []],[(0,⟨false,true,5,1,fun _=>cq s 64 200⟩)],1⟩
theorem Qe {n:Nat} {z:Nat→Int} {i j k:Int}:aG T B6 [30] 60 BK (before vc [1,1,1]) ⟨aM 0 [.ag 1 n (gB z),.int .i64 i,.int .i64 j,.int .i64 k],[],0⟩=
  let c6:Prop:=0<1;let c5:Int:=aR n (aR n (0:Int));let c4:Nat:=eJ n (gB z) (0:Int) (3:Int);let c3:Nat:=Int.toNat (2:Int);let c2:Nat:=eJ n (gB z) (aR n (0:Int)) (3:Int);let c8:Int:=vm n (gB z) (0:Int) (3:Int) c3;let c1:Int:=eF n (gB z) c5 c4 c3;let c7:Nat:=c2+1+gv n (gB z) c1 c3;some (fork (!decide ((↑n:Int)≤(500:Int))) (leaf ret ([AV.bool true,int i64 i,int i64 j,int i64 k,tuple []],[])) (af [cB n (gB z) (0:Int),(1:Int)≤(3:Int),(3:Int)<(900:Int),(0:Int)≤(2:Int),(2:Int)<(900:Int),c6,c6,c6] (leaf normal ([AV.bool false,int i64 i,int i64 j,int i64 k,ptr 24576 0 5 0 []],[((24576:Nat),ah.mk false true 5 1 fun j↦if(j==0)=true then bh (agg [int i64 (↑c4:Int),int i64 (↑c2:Int),ag 3 (iD n (gB z) c5 c4 c3) fun i↦rat (ki n (gB z) c5 c4 c3 i) 64,ag 3 (iD n (gB z) c1 c2 c3) fun i↦rat (ki n (gB z) c1 c2 c3 i) 64,ag 1 (c4+1+gv n (gB z) c5 c3) fun i↦bg (fun j↦jT (cy n (gB z) c8 (3:Int)==(2:Int)) n (gB z) (gP n (gB z) (aR n c8) (i*c7+j)) i j) c7 200])else agg [int i64 (0:Int),int i64 (0:Int),nil,nil,nil])])))):=by kernel_rfl
theorem adV {s:Sf} {i j k:Int}:bZ T B6 [47,100097,100102,100107,100112,100117,100122,100127,100132] 200 m9 [part vc [1,1,1]] (CP s i j k)=
  let c41:Rat:=Cg i k;let c40:Prop:=(bif true then true else false)=true;let c39:Prop:=64≤sK;let c32:Prop:=(0:Int)≤(0:Int);let c24:Nat:=2^30;let c22:Prop:=bB (fun i↦rat (s.kv i) 64) s.b sK;let c21:Prop:=bB (fun i↦rat (s.ku i) 64) s.a sJ;let c20:Prop:=bB (fun i↦rat (s.kv i) 64) s.b sJ;let c19:Prop:=bB (fun i↦rat (s.ku i) 64) s.a sK;let c18:Int:=(2:Int)^63;let c17:Prop:=eH (fun i↦bg (s.f i) s.m 200) s.n sJ;let c16:Prop:=eH (fun i↦bg (s.f i) s.m 200) s.n sK;let c11:Int:=(↑s.a:Int)-(1:Int);let c10:Int:=(↑s.b:Int)-(1:Int);let c9:Nat:=Int.toNat (0:Int);let c6:Prop:=64+((64:Nat)+((64:Nat)+64+1))+1≤sK;let c4:Prop:=0<1;let c1:Sf:=Sf.mk s.u s.v s.a (fun i↦aI (rat (s.ku i) 64)) s.b (fun i↦aI (rat (s.kv i) 64)) s.n (ec (bg (s.f 0) s.m 200)) (eL fun i↦bg (s.f i) s.m 200);let c46:List Prop:=[jd c1,c4];let c45:Rat:=s.ku c9;let c44:Rat:=s.kv c9;let c43:Prop:=(0:Int)≤c10∧c10.toNat<s.b;let c42:Prop:=(0:Int)≤c11∧c11.toNat<s.a;let c38:List Prop:=[c6,dG c1,c4];let c37:List Prop:=[c4,c4,c4,c4,c4,c4];let c31:Int:=bt s.a (fun i↦aI (rat (s.ku i) 64)) c41;let c29:Rat:=s.kv c10.toNat;let c28:Rat:=s.ku c11.toNat;let c15:Cu:=eI c1 c41;let c13:Cu:=fo (dr c1) c41;let c12:List Prop:=c4::c4::bB (fun i↦rat (s.ku i) 64) s.a 64::bB (fun i↦rat (s.kv i) 64) s.b 64::eH (fun i↦bg (s.f i) s.m 200) s.n 200::c38;let c8:List Prop:=c4::c4::c19::c22::c16::c6::c46;let c7:List Prop:=c4::c4::(((↑s.a:Int)==(0:Int))=false)::(c32∧c9<s.a)::(-c18≤c11∧c11<c18)::c42::c4::c4::c4::c4::(((↑s.b:Int)==(0:Int))=false)::(c32∧c9<s.b)::(-c18≤c10∧c10<c18)::c43::c4::c4::c4::c37;let c3:Rat:=c45+Bn i*(c28-c45);let c2:Rat:=c44+Bn j*(c29-c44);let c36:V3:=lU c1 c3 c2;let c35:V3:=jQ c1 c3 c2;let c34:Int:=bt s.a (fun i↦aI (rat (s.ku i) 64)) c3;let c33:Int:=bt s.b (fun i↦aI (rat (s.kv i) 64)) c2;let c30:Cu:=fo c1 c2;let c27:Cu:=eI c1 c3;let c26:V3:=lU c1 c41 c2;let c25:V3:=jQ c1 c41 c2;let c23:Cu:=fo (dr c1) c3;let c14:Cu:=eI (dr c1) c2;let c5:List Prop:=[c40,(bif true then c33==c33 else false)=true,c4,c4,bB (fun i↦rat (c14.k i) sK) c14.n sK,gd (fun i↦bN (c14.f i) sE) c14.m sE,bB (fun i↦rat (c30.k i) sK) c30.n sK,gd (fun i↦bN (c30.f i) sE) c30.m sE,(Cu.mk c14.p c14.n (fun i↦aI (rat (c14.k i) sK)) c14.m fun i↦iu (bN (c14.f i) sE))=Cu.mk c30.p c30.n (fun i↦aI (rat (c30.k i) sK)) c30.m fun i↦iu (bN (c30.f i) sE),c14.n<c24,c14.m<c24,c40,c4,c4,decide (c45=kz c45 c28)=true,(bif true then bif true then decide (c28=k8 c45 c28)else false else false)=true,c4,c4,decide (c44=kz c44 c29)=true,(bif true then bif true then decide (c29=k8 c44 c29)else false else false)=true];some (af (c4::c4::(c32∧c9<s.a)::c4::c4::(-c18≤c11∧c11<c18)::c42::c4::(c32∧c9<s.b)::c4::c4::(-c18≤c10∧c10<c18)::c43::c37) (af c37 (af [(0:Int)<(7:Int),(7:Int)<(2:Int)^62] (fork (k%(7:Int)==(6:Int)) (af [c4] (af (c4::c4::c4::c21::c20::c17::c39::c38) (af (c4::c4::c4::c19::c22::c16::c39::c6::c46) (af [c4,c4,c21,c20,c17,c39,dG c1,c4] (af (c4::c4::c19::c22::c16::c39::c46) (af c12 (af c8 (af c7 (af (((iR c1 c41 c2==iR c1 c41 c2)=true)::c4::c4::(decide (c25.x=c26.x)=true)::((bif true then decide (c25.y=c26.y)else false)=true)::((bif true then bif true then decide (c25.z=c26.z)else false else false)=true)::((bif true then c31==c31 else false)=true)::c4::c4::bB (fun i↦rat (c15.k i) sK) c15.n sK::gd (fun i↦bN (c15.f i) sE) c15.m sE::bB (fun i↦rat (c13.k i) sK) c13.n sK::gd (fun i↦bN (c13.f i) sE) c13.m sE::((Cu.mk c15.p c15.n (fun i↦aI (rat (c15.k i) sK)) c15.m fun i↦iu (bN (c15.f i) sE))=Cu.mk c13.p c13.n (fun i↦aI (rat (c13.k i) sK)) c13.m fun i↦iu (bN (c13.f i) sE))::(c15.n<c24)::(c15.m<c24)::c5) (leaf ret [AV.bool true])))))))))) (af (c4::c4::c4::c21::c20::c17::c6::c38) (af (c4::c4::c4::c19::c22::c16::c6::c6::c46) (af (c4::c4::c21::c20::c17::c38) (af c8 (af c12 (af c8 (af c7 (af (((iR c1 c3 c2==iR c1 c3 c2)=true)::c4::c4::(decide (c35.x=c36.x)=true)::((bif true then decide (c35.y=c36.y)else false)=true)::((bif true then bif true then decide (c35.z=c36.z)else false else false)=true)::((bif true then c34==c34 else false)=true)::c4::c4::bB (fun i↦rat (c27.k i) sK) c27.n sK::gd (fun i↦bN (c27.f i) sE) c27.m sE::bB (fun i↦rat (c23.k i) sK) c23.n sK::gd (fun i↦bN (c23.f i) sE) c23.m sE::((Cu.mk c27.p c27.n (fun i↦aI (rat (c27.k i) sK)) c27.m fun i↦iu (bN (c27.f i) sE))=Cu.mk c23.p c23.n (fun i↦aI (rat (c23.k i) sK)) c23.m fun i↦iu (bN (c23.f i) sE))::(c27.n<c24)::(c27.m<c24)::c5) (leaf ret [AV.bool true]))))))))))))):=by kernel_rfl
theorem WH:aW P LB:=aD (fU hT (cw (aD ad9 (aD afs aX))) hm (aP R8 (by kernel_rfl) (by kernel_rfl) (by kernel_rfl)) _ _) aX
theorem Xy:aW P Ia:=aD (fU hT (cw YN) hm (aP Rb (by kernel_rfl) (by kernel_rfl) (by kernel_rfl)) _ _) aX
theorem P0:aW P HO:=aD (fU hT (cw aX) hm (aP Xa (by kernel_rfl) (by kernel_rfl) (by kernel_rfl)) _ _) (aD (fU hT (cw Xy) hm (aP Xo (by kernel_rfl) (by kernel_rfl) (by kernel_rfl)) _ _) (aD (fU hT (ji nA) hm (aP Wv (by kernel_rfl) (by kernel_rfl) (by kernel_rfl)) _ _) (aD (fU hT (ji nA) hm (aP G7 (by kernel_rfl) (by kernel_rfl) (by kernel_rfl)) _ _) aX)))
theorem F9:aW P B6:=cw (aD UF (aD SJ (aD BF (aD Yx (aD Ik (aD Q5 (aD Ei (aD MQ (aD ad3 (aD F6 (aD Z8 (BG WH (BG P0 ZR)))))))))))))
theorem I5 {s:Sf} {u:Rat} (h:s.b<2^30) (h2:s.m<2^30):(eI s u).n<2^30∧(eI s u).m<2^30:=by
 unfold eI
 split
 ·exact⟨by decide,by decide⟩
 ·exact⟨h,h2⟩
set_option maxHeartbeats 1000000 in
theorem Qo {s:Sf} {i j k:Int} {cx:Ctx} (hs:dG s):ak P cx m9.ntmps (part vc [1,1,1]) (CP s i j k) (dm cx (Fin T m9 (.bool true))):=by
 obtain⟨ku,kv,u0,u6,v0,v6,ha,hb,hn,hm2,hw⟩:=id hs
 have hW:=hs.weak
 have hlu:=ku.len
 have hlv:=kv.len
 have heu:=ku.LK
 have hev:=kv.LK
 have m1:s.ku 0=kz (s.ku 0) (s.ku (s.a-1)):=by unfold kz;split<;>grind
 have m2:s.ku (s.a-1)=k8 (s.ku 0) (s.ku (s.a-1)):=by unfold k8;split<;>grind
 have m3:s.kv 0=kz (s.kv 0) (s.kv (s.b-1)):=by unfold kz;split<;>grind
 have m4:s.kv (s.b-1)=k8 (s.kv 0) (s.kv (s.b-1)):=by unfold k8;split<;>grind
 refine ak.gz ((aC.fin hT F9 hm 200 adV (by kernel_rfl) ?_).mono fun _ _ h=>.inl h)
 have e1:((s.a:Int)-1).toNat=s.a-1:=by omega
 have e2:((s.b:Int)-1).toNat=s.b-1:=by omega
 have hS:(⟨s.u,s.v,s.a,fun i=>aI (rat (s.ku i) 64),s.b,fun i=>aI (rat (s.kv i) 64),s.n,ec (bg (s.f 0) s.m 200),eL fun i=>bg (s.f i) s.m 200⟩:Sf)=s:=rfl
 have q1:∀u,(eI s u).n<2^30∧(eI s u).m<2^30:=fun u=>I5 (by omega) (by omega)
 have q2:∀u,(eI (dr s) u).n<2^30∧(eI (dr s) u).m<2^30:=fun u=>I5 (s:=dr s) (show s.a<2^30 by omega) (show s.n<2^30 by omega)
 have q3:∀u,eI s u=fo (dr s) u:=fun u=>E1
 have q4:∀v,eI (dr s) v=fo s v:=fun v=>E1 (s:=dr s)
 simp only[aa.all,ax,hS,e1,e2,Int.toNat_zero,cond_true,Qg hs,decide_true,beq_self_eq_true]
 (repeat' with_reducible first|refine And.intro ?_ ?_|intro _)
 all_goals first|omega|exact cm (by decide)|exact nw (by decide)|exact gj (by decide)|exact hs|exact hW|exact q3 _|exact q4 _|exact(q1 _).1|exact(q1 _).2|exact(q2 _).1|exact(q2 _).2|exact decide_eq_true m1|exact decide_eq_true m2|exact decide_eq_true m3|exact decide_eq_true m4|trivial|exact .refl _|decide|exact beq_eq_false_iff_ne.2 (by omega)|skip
set_option maxHeartbeats 1000000 in
theorem adT {n:Nat} {z:Nat→Int} {i j k:Int} (K:Nat):az P De K [.ag 1 n (fun i=>.int .i64 (z i)),.int .i64 i,.int .i64 j,.int .i64 k] [] (aF (.bool true) []):=by
 refine eB (r:=aF (.bool true) []) hT Ng rfl (of_decide_eq_true (by kernel_rfl)) rfl (fun _ cx h0=>?_) K []
 have hk:=iT h0
 have hret:l7 m9 BK (.bool true) ([AV.bool true,.int .i64 i,.int .i64 j,.int .i64 k,tuple []],[]):=⟨[.bool true],by kernel_rfl,bz.refl _⟩
 refine ak.hole [1,1,1] (by kernel_rfl) (aC.bf hT F9 hm 60 BK Qe (kE Ng.dst) ?_)
 simp only[aa.all,ax]
 refine⟨fun h s' hs'=>hret.fin hs',fun h=>?_⟩
 have hn:n≤500:=by simp only[Bool.not_eq_false',decide_eq_true_eq]at h;omega
 have hd:cB n (gB z) 0:=⟨fun i=>rfl,by omega,by omega,by omega⟩
 refine⟨⟨hd,by omega,by omega,by omega,by omega,by omega,by omega,by omega⟩,fun s' hs'=>?_⟩
 have hsf:=VR (m:=2) hd (show(1:Int)≤3 by omega) (by omega) (by omega)
 show ak _ _ _ (part vc [1,1,1]) s' _
 rw[show behind vc [1,1,1]=[]from by kernel_rfl]
 refine ak.j0 (s2:=CP (mK n (gB z) 0 3 2) i j k) (eP.le ⟨[(0,24576)],rfl,rfl,rfl,aN rfl rfl (aK rfl rfl) trivial⟩ hs' hk) ((Qo hsf).mono fun e s' h=>by cases e<;>exact h)
end Go.Am.B
