/- brepkernellaw12.SurfaceStays. -/
import Derived.Test.YtfjlccdmhpdiiaaGreatY13
import Derived.Test.YtfjlccdmhpdiiaaGreatY15
import Derived.Test.YtfjlccdmhpdiiaaGreatY12
set_option linter.unusedVariables false
variable {k:Int}{u v:Rat}{z:Nat->Int}
noncomputable section
namespace Go.Am.B
open Go Go.Am.N AV ag au IntKind Proofs.Tryz
variable {s:Sf}
theorem GU:aU 5 f5:=aS func5
abbrev eF (z:Nat->Int):Nat->AV:=fun i=>.int .i64 (z i)
def N9:aX:=[(8,iR T (nG::(20,Ot)::(22,jL DG)::[]) [] 60 f8),(16,iR T (nG::IJ) [] 60 f16)]
def BD:aX:=nG::(6,LS)::(7,Ny)::(35,FN)::(36,Ox)::(13,MX)::(17,N4)::(37,BB)::(38,KC)::(39,Q0)::(40,KY)::(41,KU)::(27,Bz)::(29,QZ)::(14,Px)::(N9++(Nv++(F9++oT)))
abbrev EI:Code:=aE f5
abbrev tu:Code:=part EI [1,1,1,1,1]
abbrev BM:List Nat:=[3,8,9,10,12,13]
abbrev G7:List Nat:=[8,9,10,12,13]
abbrev NU (s:Sf) (u v:Rat):aC:=[(3,tP v 100),(2,tP u 100),(1,⟨false,true,6,1,fun _=>.agg [.rat (s.ku 0) 64,.rat (s.ku (s.a-1)) 64]⟩),(0,⟨false,true,5,1,fun _=>bM s 64 200⟩)]
abbrev Fj (s:Sf) (u v:Rat) (k:Int):aK:=⟨aA BM [.int .i64 k,.bool false,.ptr 0 0 5 0 [],.ptr 1 0 6 0 [],.ptr 2 0 3 0 [],.ptr 3 0 3 0 []],NU s u v,4⟩
abbrev Cw (s:Sf) (u v:Rat):aK:=⟨aA G7 [.bool false,.ptr 0 0 5 0 [],.ptr 1 0 6 0 [],.ptr 2 0 3 0 [],.ptr 3 0 3 0 []],NU s u v,4⟩
theorem amD {n:Nat} {i j:Int}:aI T BD [30] 60 BM (before EI [1,1,1,1,1]) ⟨aN 0 [.ak 1 n (eF z),.int .i64 i,.int .i64 j,.int .i64 k],[],0⟩=
  let l:=(2:Int)^63;let h:=rat 0 1;let g:=Int.toNat (0:Int);let d:=Max.max 64 64;let p:=aR n (aR n (0:Int));let m:=dM n (eF z) (0:Int) (3:Int);let b:=Int.toNat (2:Int);let o:=dM n (eF z) (aR n (0:Int)) (3:Int);let a:=0<1;let A:=jD n (eF z) p m b g;let u:=xO n (eF z) (0:Int) (3:Int) b;let t:=d+((64:Nat)+(d+d+1))+1;let v:=jw n (eF z) p m b;let q:=fX n (eF z) p m b;let B:=jD n (eF z) q o b g;let w:=o+1+iA n (eF z) q b;let f:=(↑v:Int)-1;let C:=jw n (eF z) q o b;let x:=jD n (eF z) p m b f.toNat;let e:=(↑C:Int)-1;let y:=jD n (eF z) q o b e.toNat;let r:=nN A x;let D:=nH A x;let s:=nH B y;some (fork (!decide ((↑n:Int)<=500)) (leaf ret ([int i64 k,AV.bool true,tuple [],tuple [],tuple [],tuple []],[])) (aj [dz n (eF z) (0:Int),(1:Int)<=3,(3:Int)<900,(0:Int)<=2,(2:Int)<900,a,a,a] (aj [a,a,((↑v:Int)==0)=false,(0:Int)<=0/\g<v,-l<=f/\f<l,(0:Int)<=f/\f.toNat<v,a,a,a,a,((↑C:Int)==0)=false,(0:Int)<=0/\g<C,-l<=e/\e<l,(0:Int)<=e/\e.toNat<C,a,a,a,a,a,a,a,a,a] (aj [a,a,a,a,a,a] (leaf normal ([int i64 k,AV.bool false,ptr 24576 0 5 0 [],ptr 53248 0 6 0 [],ptr 94208 0 3 0 [],ptr 98304 0 3 0 []],[((98304:Nat),bG fun j_1=>if(j_1==0)=true then bp (rat (s+ic j*(nN B y-s)) t)else h),((94208:Nat),bG fun j=>if(j==0)=true then bp (rat (D+ic i*(r-D)) t)else h),(53248,aq.mk false true 6 1 fun j=>if(j==0)=true then bp (agg [rat D d,rat r d])else agg [h,h]),(24576,aq.mk false true 5 1 fun j=>if(j==0)=true then bp (agg [int i64 (↑m:Int),int i64 (↑o:Int),ak 3 v fun i=>rat (jD n (eF z) p m b i) 64,ak 3 C fun i=>rat (jD n (eF z) q o b i) 64,ak 1 (m+1+iA n (eF z) p b) fun i=>aT (fun j=>lO (cQ n (eF z) u (3:Int)==2) n (eF z) (jU n (eF z) (aR n u) (i*w+j)) i j) w 200])else agg [int i64 0,int i64 0,nil,nil,nil])])))))):=ah
theorem abn:aI T BD [55] 60 G7 (before tu [1]) (Fj s u v k)=
  let h:=s.ku 0;let l:=bh (fun i=>rat (s.kv i) 64) s.b 2000;let j:=bh (fun i=>rat (s.ku i) 64) s.a 2000;let A:=dN (fun i=>aT (s.f i) s.m 200) s.n 2000;let p:=100<=2000;let g:=0<1;let o:Sf:=Sf.mk s.u s.v s.a (fun i=>aF (rat (s.ku i) 64)) s.b (fun i=>aF (rat (s.kv i) 64)) s.n (dn (aT (s.f 0) s.m 200)) (dh fun i=>aT (s.f i) s.m 200);let q:=h+ic k*(s.ku (s.a-1)-h);let t:ag (List AV×aC):=leaf normal ([AV.bool false,ptr 0 0 5 0 [],ptr 1 0 6 0 [],ptr 2 0 3 0 [],ptr 3 0 3 0 []],[((3:Nat),bG fun x=>rat v 100),((2:Nat),bG fun x=>rat u 100),(1,aq.mk false true 6 1 fun x=>agg [rat h 64,rat (s.ku (s.a-1)) 64]),(0,aq.mk false true 5 1 fun x=>agg [int i64 s.u,int i64 s.v,ak 3 s.a fun i=>rat (s.ku i) 64,ak 3 s.b fun i=>rat (s.kv i) 64,ak 1 s.n fun i=>ak 12 s.m fun i_1=>agg [agg [rat (s.f i i_1).n.x 200,rat (s.f i i_1).n.y 200,rat (s.f i i_1).n.z 200],rat (s.f i i_1).d 200]])]);let r:=ig (bK o 0) q==0;let e:Sf:=ju o q;let w:Sf:=Sf.mk e.u e.v e.a (fun i=>aF (rat (e.ku i) 2000)) e.b (fun i=>aF (rat (e.kv i) 2000)) e.n (dn (aT (e.f 0) e.m 2000)) (dh fun i=>aT (e.f i) e.m 2000);some (aj [g,g,g,j,l,A,(64:Nat)+((64:Nat)+((64:Nat)+64+1))+1<=2000,fc o,e9 q,g] (fork r (aj [r=true,g,g,g,g,g,g,j,l,A,bh (fun i=>rat (e.ku i) 2000) e.a 2000,bh (fun i=>rat (e.kv i) 2000) e.b 2000,dN (fun i=>aT (e.f i) e.m 2000) e.n 2000,p,p,p,p,cO o,cO w,¬bf s.a (fun i=>aF (rat (s.ku i) 64)) u,¬bf s.b (fun i=>aF (rat (s.kv i) 64)) v,¬bf e.a (fun i=>aF (rat (e.ku i) 2000)) u,¬bf e.b (fun i=>aF (rat (e.kv i) 2000)) v,fB w u v=fB o u v] t) (aj [r=false] t))):=ah
theorem agP:ct T BD [200108,100140,100144,100149,100154] 60 f5 [part tu [1]] (Cw s u v)=
  let J:=s.n-1;let H:=100<=sK;let V:=s.ku 0+s.ku (s.a-1)-u;let U:=(↑s.n:Int)=(↑s.a:Int)-s.u-1;let R:=¬bf s.a (fun i=>aF (rat (aF (rat (s.ku i) 64)) 2000)) u;let Q:=¬bf s.b (fun i=>aF (rat (aF (rat (s.kv i) 64)) 2000)) v;let P:=Kn s.b s.v.toNat fun i=>aF (rat (aF (rat (s.kv i) 64)) 2000);let O:=Kn s.a s.u.toNat fun i=>aF (rat (aF (rat (s.ku i) 64)) 2000);let A:=2^40;let G:=¬bf s.a (fun i=>aF (rat (s.ku i) 64)) u;let F:=¬bf s.b (fun i=>aF (rat (s.kv i) 64)) v;let E:=bh (fun i=>rat (aF (rat (s.kv i) 64)) 2000) s.b 2000;let h:=100<=2000;let g:=2^28;let B:=bh (fun i=>rat (aF (rat (s.ku i) 64)) 2000) s.a 2000;let w:=dn (aT (fun i=>dh (fun i=>aT (s.f i) s.m 200) i 0) s.n 2000);let l:=bh (fun i=>rat (s.kv i) 64) s.b 2000;let D:=bh (fun i=>rat (s.ku i) 64) s.a 2000;let C:=dN (fun i=>aT (s.f i) s.m 200) s.n 2000;let e:=0<1;let q:=dn (aT (s.f 0) s.m 200);let W:=(↑q:Int)=(↑s.b:Int)-s.v-1;let M:=dN (fun i=>aT (fun i_1=>dh (fun i=>aT (s.f i) s.m 200) i_1 i) s.n 2000) q 2000;let L:=dn (aT (fun i=>dh (fun i=>aT (fun i_1=>dh (fun i=>aT (s.f i) s.m 200) i_1 i) s.n 2000) i 0) q 2000);let K:Sf:=Sf.mk s.u s.v s.a (fun i=>aF (rat (iJ s.a (fun i=>aF (rat (s.ku i) 64)) i) 2000)) s.b (fun i=>aF (rat (aF (rat (s.kv i) 64)) 2000)) s.n (dn (aT (dh (fun i=>aT (s.f i) s.m 200) (J-0)) q 2000)) (dh fun i=>aT (dh (fun i=>aT (s.f i) s.m 200) (J-i)) q 2000);let c:Sf:=Sf.mk s.v s.u s.b (fun i=>aF (rat (aF (rat (s.kv i) 64)) 2000)) s.a (fun i=>aF (rat (aF (rat (s.ku i) 64)) 2000)) q w (dh fun i=>aT (fun i_1=>dh (fun i=>aT (s.f i) s.m 200) i_1 i) s.n 2000);let r:Sf:=Sf.mk s.u s.v s.a (fun i=>aF (rat (s.ku i) 64)) s.b (fun i=>aF (rat (s.kv i) 64)) s.n q (dh fun i=>aT (s.f i) s.m 200);let I:Sf:=dc (dc r);let t:=fB r u v;let o:Cu:=fC (bK (dc r) 0);let Z:=kU (Cu.mk s.v s.b (fun i=>aF (rat (aF (rat (s.kv i) 64)) 2000)) q fun i=>mP (bH (pQ (dc r) u i) 2000)) v;let S:=bh (fun i=>rat (o.k i) 2000) o.n 2000;let N:=dN (fun i=>aT (fun i_1=>(fC (bK (dc r) i)).f i_1) o.m 2000) s.n 2000;let Y:=kU (Cu.mk s.u s.a (fun i=>aF (rat (aF (rat (s.ku i) 64)) 2000)) s.n fun i=>mP (bH (pQ I v i) 2000)) u;let X:Sf:=Sf.mk s.u o.p s.a (fun i=>aF (rat (aF (rat (s.ku i) 64)) 2000)) o.n (fun i=>aF (rat (o.k i) 2000)) s.n (dn (aT (fun i=>o.f i) o.m 2000)) (dh fun i=>aT (fun i_1=>(fC (bK (dc r) i)).f i_1) o.m 2000);some (aj [e,D,l,C,fc r,s.v<=5,e] (aj [e,e,e,e,e,e,D,l,C,B,S,N,h,h,h,h,cO r,cO X,G,F,R,¬bf o.n (fun i=>aF (rat (o.k i) 2000)) v,fB X u v=t,e,B,S,N,cO X] (aj [e,e,e,D,l,C,H,H,cO r,e] (aj [e,e,D,l,C,h,fc r,s.u<=3,e9 u,G,e] (aj [e,e,D,l,C,h,fc r,s.v<=3,e9 v,F,e] (aj [(nq r u v !=(0:Int))=false,e,E,iX (fun i=>bH (pQ (dc r) u i) 2000) q 2000,P,(0:Int)<=s.v,s.v<=6,s.b<=s.v.toNat+41,W,∀(i:Nat),i<q->0<aF (rat (bU (s.u.toNat+1) fun j=>vB (fun i=>aF (rat (s.ku i) 64)) (bJ s.a (fun i=>aF (rat (s.ku i) 64)) u) u s.u.toNat j*aF (rat (s.f (bJ s.a (fun i=>aF (rat (s.ku i) 64)) u-s.u.toNat+j) i).d 200)) 2000),e,B,iX (fun i=>bH (pQ I v i) 2000) s.n 2000,O,(0:Int)<=s.u,s.u<=6,s.a<=s.u.toNat+41,U,∀(i:Nat),i<s.n->0<aF (rat (bU (s.v.toNat+1) fun j=>vB (fun i=>aF (rat (s.kv i) 64)) (bJ s.b (fun i=>aF (rat (s.kv i) 64)) v) v s.v.toNat j*aF (rat (s.f i (bJ s.b (fun i=>aF (rat (s.kv i) 64)) v-s.v.toNat+j)).d 200)) 2000)] (aj [e,e,bh (fun i=>rat (aF (rat (s.kv i) 64)) 2000) s.b sK,iX (fun i=>bH (pQ (dc r) u i) 2000) q sK,H,P,(0:Int)<=s.v,s.v<=6,s.b<A,W,e] (aj [e,e,bh (fun i=>rat (aF (rat (s.ku i) 64)) 2000) s.a sK,iX (fun i=>bH (pQ I v i) 2000) s.n sK,H,O,(0:Int)<=s.u,s.u<=6,s.a<A,U,e] (aj [(cA s.b (fun i=>aF (rat (aF (rat (s.kv i) 64)) 2000)) v==0)=true,(bif true then cA s.a (fun i=>aF (rat (aF (rat (s.ku i) 64)) 2000)) u==0 else false)=true,e,e,decide (t.x=Z.x)=true,(bif true then decide (t.y=Z.y)else false)=true,(bif true then bif true then decide (t.z=Z.z)else false else false)=true,e,e,decide (t.x=Y.x)=true,(bif true then decide (t.y=Y.y)else false)=true,(bif true then bif true then decide (t.z=Y.z)else false else false)=true,e,e,D,l,C,s.n=0->q=0,s.a<g,s.b<g,s.n<g,q<g,gI r,e,e,e,e,D,l,C,E,B,M,h,h,h,h,cO r,cO c,G,F,Q,R,fB c v u=t,e,e,D,l,C,s.a<g,s.b<g,(1:Nat)<=s.n,s.n<g,q<g,gI (mM r),e,e,e,e,e,e,D,l,C,bh (fun i=>rat (iJ s.a (fun i=>aF (rat (s.ku i) 64)) i) 2000) s.a 2000,E,dN (fun i=>aT (dh (fun i=>aT (s.f i) s.m 200) (J-i)) q 2000) s.n 2000,h,h,(64:Nat)+64+1+100+1<=2000,h,cO r,cO K,G,F,¬bf s.a (fun i=>aF (rat (iJ s.a (fun i=>aF (rat (s.ku i) 64)) i) 2000)) V,Q,fB K V v=t,e,D,l,C,s.n=0->q=0,s.a<g,s.b<g,s.n<g,q<g,gI r,E,B,M,q=0->w=0,s.b<g,s.a<g,q<g,w<g,gI c,e,bh (fun i=>rat (aF (rat (aF (rat (s.ku i) 64)) 2000)) 2000) s.a 2000,bh (fun i=>rat (aF (rat (aF (rat (s.kv i) 64)) 2000)) 2000) s.b 2000,dN (fun i=>aT (fun i_1=>dh (fun i=>aT (fun i_2=>dh (fun i=>aT (s.f i) s.m 200) i_2 i) s.n 2000) i_1 i) q 2000) w 2000,D,l,C,EF (Sf.mk s.u s.v s.a (fun i=>aF (rat (aF (rat (aF (rat (s.ku i) 64)) 2000)) 2000)) s.b (fun i=>aF (rat (aF (rat (aF (rat (s.kv i) 64)) 2000)) 2000)) w L (dh fun i=>aT (fun i_1=>dh (fun i=>aT (fun i_2=>dh (fun i=>aT (s.f i) s.m 200) i_2 i) s.n 2000) i_1 i) q 2000)) r,w<A,L<A,s.a<A,s.b<A] (leaf ret [AV.bool true])))))))))):=ah
theorem Pz {a b:Rat} (h:a<=b):nH a b=a:=by unfold nH;grind
theorem KN {a b:Rat} (h:a<=b):nN a b=b:=by unfold nN;grind
theorem aic:bn P N9:=aH (je hT (cB (aH TU (aH akG bw))) hm (aS func8) _ _) (aH (je hT (cB Qp) hm aaM _ _) bw)
theorem Ig:bn P BD:=cB (aH VI (aH Vo (aH Jw (aH alT (aH adu (aH agE (aH DR (aH aaD (aH WD (aH aeI (aH ZV (aH ES (aH afl (aH YS (s9 aic (s9 Vn (s9 MN qv)))))))))))))))))
set_option maxRecDepth 20000 in
set_option maxHeartbeats 1000000 in
theorem L7 {cx:Ctx} (hs:fc s) (hu:e9 u) (hv:e9 v) (h3:s.u<=3) (h4:s.v<=3) (iu:¬bf s.a s.ku u) (iv:¬bf s.b s.kv v):aG P cx f5.ntmps [part tu [1]] (Cw s u v) (ej cx (Fin T f5 (.bool true))):=by
 refine(aG.fin hT Ig hm 60 agP ah ?_).mono fun _ _ h=>.inl h;obtain⟨ku,kv,u0,u6,v0,v6,ha,hb,hn,hm2,hw⟩:=id hs.ok;have la:=ku.len;have lb:=kv.len;have pu:=ku.p1;have pv:=kv.p1;have kQ:=hs.kQ;have lI:=hs.lI;have K0:100<=sK:=by decide
 have K1:100<=2000:=by decide
 have n1:1<=s.n:=aa;have n28:s.n<2^28:=aa;have m28:s.m<2^28:=aa;have n40:s.n<2^40:=aa;have m40:s.m<2^40:=aa;have nz:s.n=0->s.m=0:=fun h=>absurd h aa;have mz:s.m=0->s.n=0:=fun h=>absurd h aa;obtain⟨e1,e2,e3⟩:=amr hs (show s.v<=5 by omega) iu iv;obtain⟨f1,f2⟩:=JM hs;obtain⟨g1,g2⟩:=abe (v:=v) hs iu;have hK:=uw (v:=v) hs.ok iu;have hS:=It hs.ok iu iv;have hL:=hS.symm.trans (uw (s:=dc s) (v:=u) hs.swap.ok iv);have pU:=fun j (hj:j<s.m)=>L6 hs.ok iu hj;have pV:=fun j (hj:j<s.n)=>L6 (s:=dc s) hs.swap.ok iv hj;have eE:=D4 iu iv;have eI:cA s.a s.ku u=0:=if_neg iu;have eJ:cA s.b s.kv v=0:=if_neg iv;simp only[ag.all,ay]
 (repeat' with_reducible refine And.intro ?_ ?_)
 all_goals first
  |exact Nat.zero_lt_one
  |(with_reducible exact bL (by decide))
  |(with_reducible exact mQ (by decide))
  |(with_reducible exact fo (by decide))
  |exact hs
  |exact hu
  |exact hv
  |exact h3
  |exact h4
  |omega
  |exact K0
  |exact K1
  |exact iu
  |exact iv
  |exact ku
  |exact kv
  |exact u0
  |exact v0
  |exact u6
  |exact v6
  |exact n28
  |exact m28
  |exact n40
  |exact m40
  |exact nz
  |exact mz
  |exact hm2
  |exact hs.z
  |exact hs.z.swap
  |exact f2
  |exact hs.ok
  |exact e1
  |exact hs.ok.swap
  |exact f1
  |exact e2
  |exact g1
  |exact e3
  |exact hS
  |exact g2
  |exact bne_eq_false_iff_eq.2 eE
  |exact pU
  |exact pV
  |exact beq_iff_eq.2 eI
  |exact beq_iff_eq.2 eJ
  |exact decide_eq_true (congrArg V3.x hK)
  |exact decide_eq_true (congrArg V3.y hK)
  |exact decide_eq_true (congrArg V3.z hK)
  |exact decide_eq_true (congrArg V3.x hL)
  |exact decide_eq_true (congrArg V3.y hL)
  |exact decide_eq_true (congrArg V3.z hL)
  |exact⟨rfl,rfl,rfl,fun _ _=>rfl,rfl,fun _ _=>rfl,rfl,rfl,fun _ _ _ _=>rfl⟩
  |exact .refl _
  |skip
set_option maxRecDepth 20000 in
theorem ahw {cx:Ctx} (hk:Kept [] cx) (hs:fc s) (hu:e9 u) (hv:e9 v) (hw:e9 (s.ku 0+ic k*(s.ku (s.a-1)-s.ku 0))) (h3:s.u<=3) (h4:s.v<=3) (iu:¬bf s.a s.ku u) (iv:¬bf s.b s.kv v):ax P cx f5.ntmps tu (Fj s u v k) (ej cx (Fin T f5 (.bool true))):=by
 have hd:cI f5.ntmps tu=true:=sr ah GU.dst;obtain⟨w,hwe⟩:∃w,w=s.ku 0+ic k*(s.ku (s.a-1)-s.ku 0):=⟨_,rfl⟩
 rw[<-hwe]at hw;have o:0<1:=Nat.zero_lt_one;have K1:100<=2000:=by decide
 refine ax.hole [1] ah (aG.bE hT Ig hm 60 G7 abn (kZ hd) ?_);rw[<-hwe];simp only[ag.all,ay];refine⟨⟨o,o,o,bL (by decide),bL (by decide),fo (by decide),by decide,hs,hw,o⟩,fun h=>?_,fun h=>⟨h,fun s' hs'=>?_⟩⟩
 ·have he:ig (bK s 0) w=0:=eq_of_beq h;obtain⟨e1,e2,e3⟩:=ack (v:=v) hs hw he iu;obtain⟨b1,b2⟩:=aj1 he;have e4:¬bf (ju s w).b (ju s w).kv v:=by rw[b1,b2];exact iv
  refine⟨⟨h,o,o,o,o,o,o,bL (by decide),bL (by decide),fo (by decide),bL (by decide),bL (by decide),fo (by decide),K1,K1,K1,K1,hs.ok,e1,iu,iv,e2,e4,e3⟩,fun s' hs'=>?_⟩;rw[show behind tu [1]=[]from by kernel_rfl];exact ax.jh (s2:=Cw s u v) (cT.le ⟨[(0,0),(1,1),(2,2),(3,3)],rfl,rfl,rfl,aL (aL (aL (aL trivial)))⟩ hs' hk) ((ax.hH (L7 hs hu hv h3 h4 iu iv)).mono fun e s' h=>by cases e<;>exact h)
 ·rw[show behind tu [1]=[]from by kernel_rfl];exact ax.jh (s2:=Cw s u v) (cT.le ⟨[(0,0),(1,1),(2,2),(3,3)],rfl,rfl,rfl,aL (aL (aL (aL trivial)))⟩ hs' hk) ((ax.hH (L7 hs hu hv h3 h4 iu iv)).mono fun e s' h=>by cases e<;>exact h)
set_option maxRecDepth 20000 in
set_option maxHeartbeats 1000000 in
theorem ahm {n:Nat} {i j:Int} (K:Nat):aQ P 5 K [.ak 1 n (fun i=>.int .i64 (z i)),.int .i64 i,.int .i64 j,.int .i64 k] [] (aJ (.bool true) []):=by
 refine fV (r:=aJ (.bool true) []) hT GU rfl aV rfl (fun _ cx h0=>?_) K [];have hk:=iL h0;have hret:lU f5 BM (.bool true) ([AV.int .i64 k,AV.bool true,tuple [],tuple [],tuple [],tuple []],[]):=⟨[.bool true],ah,bV.refl _⟩
 refine ax.hole [1,1,1,1,1] ah (aG.bE hT Ig hm 60 BM amD (kZ GU.dst) ?_);simp only[ag.all,ay];refine⟨fun h s' hs'=>hret.fin hs',fun h=>?_⟩;have hn:n<=500:=by simp only[Bool.not_eq_false',br]at h;omega
 have hd:dz n (eF z) 0:=⟨fun i=>rfl,aa,aa,aa⟩
 obtain⟨s,hs⟩:∃s,s=BS (iG n (eF z) 0 3 (Int.toNat 2)):=⟨_,rfl⟩
 have hD:fc s:=by rw[hs];exact ae9 hd aa aa (by decide)
 have hOK:=hD.ok;have ta:=hD.kQ;have tb:=hD.lI;have la:=hOK.ku.len;have lb:=hOK.kv.len;have pu:=hOK.ku.p1;have pv:=hOK.kv.p1;have u6:=gR (n:=n) (f:=eF z) (a:=0) (m:=3) aa;have v6:=gR (n:=n) (f:=eF z) (a:=aR n 0) (m:=3) aa;have u0:=gM (n:=n) (f:=eF z) (a:=0) (m:=3) aa;have v0:=gM (n:=n) (f:=eF z) (a:=aR n 0) (m:=3) aa;have e5:s.u<=3:=by rw[hs];show((1+cQ n (eF z) 0 3).toNat:Int)<=3;omega
 have e6:s.v<=3:=by rw[hs];show((1+cQ n (eF z) (aR n 0) 3).toNat:Int)<=3;omega
 have eA:jw n (eF z) (aR n (aR n 0)) (dM n (eF z) 0 3) (Int.toNat 2)=s.a:=by rw[hs];rfl
 have eK:jD n (eF z) (aR n (aR n 0)) (dM n (eF z) 0 3) (Int.toNat 2)=s.ku:=by rw[hs];rfl
 have eB:jw n (eF z) (fX n (eF z) (aR n (aR n 0)) (dM n (eF z) 0 3) (Int.toNat 2)) (dM n (eF z) (aR n 0) 3) (Int.toNat 2)=s.b:=by rw[hs];rfl
 have eL:jD n (eF z) (fX n (eF z) (aR n (aR n 0)) (dM n (eF z) 0 3) (Int.toNat 2)) (dM n (eF z) (aR n 0) 3) (Int.toNat 2)=s.kv:=by rw[hs];rfl
 have e1:((s.a:Int)-1).toNat=s.a-1:=aa;have e2:((s.b:Int)-1).toNat=s.b-1:=aa;have oU:s.ku 0<=s.ku (s.a-1):=hOK.ku.mono (Nat.zero_le _) aa;have oV:s.kv 0<=s.kv (s.b-1):=hOK.kv.mono (Nat.zero_le _) aa;have hu:∀i,e9 (s.ku 0+ic i*(s.ku (s.a-1)-s.ku 0)):=fun i=>KK ((hD.c 0).h 0) ((hD.c 0).h _) oU;have hv:e9 (s.kv 0+ic j*(s.kv (s.b-1)-s.kv 0)):=KK ((hD.r 0).h 0) ((hD.r 0).h _) oV;have iu:¬bf s.a s.ku (s.ku 0+ic i*(s.ku (s.a-1)-s.ku 0)):=hOK.ku.JQ;have iv:¬bf s.b s.kv (s.kv 0+ic j*(s.kv (s.b-1)-s.kv 0)):=hOK.kv.JQ;simp only[eA,eK,eB,eL,e1,e2,Int.toNat_zero,Pz oU,Pz oV,KN oU,KN oV];refine⟨⟨hd,aa,aa,aa,aa,aa,aa,aa⟩,?_,⟨aa,aa,aa,aa,aa,aa⟩,fun s' hs'=>?_⟩
 ·(repeat' with_reducible refine And.intro ?_ ?_)<;>first|omega|exact beq_eq_false_iff_ne.2 aa
 rw[show behind EI [1,1,1,1,1]=[]from by kernel_rfl];refine ax.jh (s2:=Fj s (s.ku 0+ic i*(s.ku (s.a-1)-s.ku 0)) (s.kv 0+ic j*(s.kv (s.b-1)-s.kv 0)) k) (cT.le ⟨[(0,24576),(1,53248),(2,94208),(3,98304)],rfl,rfl,rfl,cP rfl rfl (by exact .inr ⟨rfl,dB rfl (hv.sz.more (by decide))⟩) (cP rfl rfl (by exact .inr ⟨rfl,dB rfl ((hu i).sz.more (by decide))⟩) (aL (cP rfl rfl (.inr ⟨rfl,?_⟩) trivial)))⟩ hs' hk) ((ahw hk hD (hu i) hv (hu k) e5 e6 iu iv).mono fun e s' h=>by cases e<;>exact h);rw[hs];exact alc
end Go.Am.B
