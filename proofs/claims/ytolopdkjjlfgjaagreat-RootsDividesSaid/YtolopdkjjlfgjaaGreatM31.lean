/- brepkernellaw06.RootsDivides. -/
import Derived.Test.YtolopdkjjlfgjaaGreatY40
set_option linter.unusedVariables false
namespace Go.Am.B
open Go Go.Am.N AV af aq IntKind Proofs.Tryz
theorem Zk:aX 7 f7:=aZ func7
def KX:Spec:=dA (kC (kL ag) (kC (kL ag) kN)) (fun a=>.tuple [aI (l9 a.1 a.2.1),aI (mL a.1 a.2.1),.int .i64 (zE (az a.2.1).1)]) fun a=>[dm a.1,dm a.2.1,vH a.1 a.2.1]
def M7:Spec:=dA (kC (kL ag) kN) (fun a=>.tuple [aI (jP a.1),.int .i64 (zE (az a.1).1)]) fun a=>[dm a.1,zF a.1]
def acf:Spec:=dA (kC (kL ag) kN) (fun a=>.tuple [aI (jP a.1),.int .i64 (zE (az a.1).1)]) fun a=>[dm a.1,yM a.1]
def T0:Spec:=dA (kC (kL ag) kN) (fun a=>oT a.1) fun a=>[Aq a.1]
def Q6:Spec:=dA (kC (kL ag) kN) (fun a=>oT a.1) fun a=>[yQ a.1]
def Py:Spec:=dA (kC (kL ag) (kC (kL ag) kN)) (fun a=>aI (uh a.1 a.2.1)) fun a=>[dm a.1,dm a.2.1,jQ (az a.1,az a.2.1),fO (bS (az a.1) (az a.2.1))]
def Xv:Spec:=dA (kC (kL ag) (kC (kL ag) kN)) (fun a=>aI (uh a.1 a.2.1)) fun a=>[dm a.1,dm a.2.1,nq (az a.1) (az a.2.1),fO (bS (az a.1) (az a.2.1))]
noncomputable def J2:bh:=nG::(11,LG)::(12,FB)::(14,IF)::(13,kS Cs)::(29,KX)::(36,KX)::(22,M7)::(37,acf)::(38,T0)::(39,Q6)::(35,Py)::(42,Xv)::(40,D8)::(41,G6)::[]
theorem Ny {n:Nat} {z:Nat->Int}:bR T J2 [22,100067,100072,100077,100082,100087,100092,100097,100106] 60 f7 (aH f7) ⟨aT 0 [.ak 1 n fun i=>.int .i64 (z i)],[],0⟩=
  let c12:Int:=qM n (fun i=>int i64 (z i)) (0:Int);let c8:Nat:=2^40;let c5:PP:=oK n (fun i=>int i64 (z i)) (0:Int);let c7:Int:=zE (br (fk c5.fst fun i=>aS (rat (c5.snd i) ag)) c5.fst);let c6:Prop:=cF (fun i=>rat (c5.snd i) ag) c5.fst ag;let c4:PP:=oK n (fun i=>int i64 (z i)) c12;let c2:Nat×(Nat->Rat):=(c5.fst,fun i=>aS (rat (c5.snd i) ag));let c19:Nat:=(jP c2).fst;let c18:Prop:=(bif true then c7==c7 else false)=true;let c10:Nat:=br (fk c4.fst fun i=>aS (rat (c4.snd i) ag)) c4.fst;let c9:Prop:=cF (fun i=>rat (c4.snd i) ag) c4.fst ag;let c3:Nat×(Nat->Rat):=(c4.fst,fun i=>aS (rat (c4.snd i) ag));let c24:PP:=mL c2 c3;let c23:PP:=l9 c2 c3;let c22:Prop:=fO (bS (az c2) (az c3));let c21:List Prop:=[c6,c9,dm c2,dm c3,vH c2 c3];let c15:Prop:=cF (fun i=>rat ((jP c2).snd i) ag) c19 ag;let c1:PP:=(bJ (az c2,az c3) c10).fst;let c20:Nat:=jy c1.fst;let c14:Nat:=c24.fst;let c13:Nat:=c23.fst;let c17:Prop:=cF (fun i=>rat (c23.snd i) ag) c13 ag;let c16:Prop:=cF (fun i=>rat (c24.snd i) ag) c14 ag;let c11:Prop:=cF (fun i=>rat (ng c1.fst (cu c1.fst c1.snd) i) ag) c20 ag;some (fork (!decide ((↑n:Int)<=500)) (leaf ret [AV.bool true]) (aj [cU n (fun i=>int i64 (z i)) (0:Int),xe n (fun i=>int i64 (z i)) (0:Int),cU n (fun i=>int i64 (z i)) c12,xe n (fun i=>int i64 (z i)) c12] (aj c21 (aj c21 (aj [c6,dm c2,zF c2] (aj [c6,dm c2,yM c2] (aj [c6,Aq c2] (aj [c6,yQ c2] (aj [(zE c10==zE c10)=true,c17,c17,c13<c8,c13<c8,(bif true then ku c13 (fun i=>aS (rat (c23.snd i) ag)) c13 fun i=>aS (rat (c23.snd i) ag)else false)=true,c16,c16,c14<c8,c14<c8,(bif true then ku c14 (fun i=>aS (rat (c24.snd i) ag)) c14 fun i=>aS (rat (c24.snd i) ag)else false)=true,c18,c15,c15,c19<c8,c19<c8,(bif true then ku c19 (fun i=>aS (rat ((jP c2).snd i) ag)) c19 fun i=>aS (rat ((jP c2).snd i) ag)else false)=true,c18,∀(i:Nat),i<jd c2->bA (aI (mZ c2 i)) (aI (cL (aI (mZ c2 i)))),∀(i:Nat),i<jd c2->bA (aI (mZ c2 i)) (aI (cL (aI (mZ c2 i)))),jd c2<c8,jd c2<c8,∀(i:Nat),i<jd c2->jy (cH (az c2) i).fst<c8,∀(i:Nat),i<jd c2->jy (cH (az c2) i).fst<c8,(bif true then uE (jd c2) (fun i=>cL (aI (mZ c2 i))) (jd c2) fun i=>cL (aI (mZ c2 i))else false)=true,c6,c9,dm c2,dm c3,jQ (az c2,az c3),c22,c6,c9,dm c2,dm c3,nq (az c2) (az c3),c22,c11,c11,c20<c8,c20<c8,(bif true then ku c20 (fun i=>aS (rat (ng c1.fst (cu c1.fst c1.snd) i) ag)) c20 fun i=>aS (rat (ng c1.fst (cu c1.fst c1.snd) i) ag)else false)=true] (leaf ret [AV.bool true])))))))))):=ah
theorem aej:bI P J2:=iQ (aL RU (aL SZ (aL XH (aL Uq (aL (cR fun⟨_,_,_⟩ K hn=>abg hn.1 hn.2.1 hn.2.2 K) (aL (cR fun⟨_,_,_⟩ K hn=>VI hn.1 hn.2.1 hn.2.2 K) (aL (cR fun⟨_,_⟩ K hn=>aa8 hn.1 hn.2 K) (aL (cR fun⟨_,_⟩ K hn=>R3 hn.1 hn.2 K) (aL (cR fun⟨_,_⟩ K hn=>Ym hn K) (aL (cR fun⟨_,_⟩ K hn=>YV hn K) (aL (cR fun⟨_,_,_⟩ K hn=>Sn hn.1 hn.2.1 hn.2.2.1 hn.2.2.2 K) (aL (cR fun⟨_,_,_⟩ K hn=>NK hn.1 hn.2.1 hn.2.2.1 hn.2.2.2 K) (aL Ir (aL Vw b9))))))))))))))
theorem St {p q:PP} (hp:gI p) (hq:gI q):vH p q:=fun h0=>by
 have hW:=cW
 have l1:=hp.gd.len
 have l2:=hq.gd.len
 have hR:(az p).1-((az q).1-1)<=13:=aa
 obtain⟨r1,r2⟩:=yx hp.gd.bd hq.gd.bd (hq.pos h0) hq.gd.tr hR
 have lr:(cw (az p) (az q)).1<=13:=Nat.le_trans (show br _ _<=(az p).1 from eI) l1
 have lq:(eZ (az p) (az q)).1<=13:=Nat.le_trans (show br _ _<=_ from eI) hR
 have m1:=Nat.mul_le_mul lr lr
 have m2:=Nat.mul_le_mul lq lq
 exact⟨AS hp.gd.bd hq.gd.bd (hq.pos h0) hq.gd.tr hR aa,wP r2 aa aa,wP r1 aa aa⟩
theorem K6 {p:PP} (hp:gI p):zF p/\yM p:=by
 have hW:=cW
 have key:(az p).1≠0->fO (bX (az p)):=fun h0=>by
  obtain⟨f1,f2⟩:=r9 hp.gd (hp.pos h0)
  have m:=Nat.mul_le_mul f2 f2
  exact wP f1 aa aa
 exact⟨fun h0=>⟨(tV hp.gd (hp.pos h0)).1,key h0⟩,fun h0=>⟨(tV hp.gd (hp.pos h0)).2,key h0⟩⟩
theorem I4 {p:PP} (hp:gI p):Aq p/\yQ p:=by
 have key:(az p).1≠0->cq (az p)<2^30:=fun h0=>by
  have:=sU hp.gd (hp.pos h0);omega
 exact⟨⟨hp.of,fun h0=>⟨(tX hp.gd (hp.pos h0)).1,key h0,fun i hi=>Gx hp.gd (hp.pos h0) hi⟩⟩,⟨hp.of,fun h0=>⟨(tX hp.gd (hp.pos h0)).2,key h0,fun i hi=>Gx hp.gd (hp.pos h0) hi⟩⟩⟩
theorem adL {p q:PP} (hp:gI p) (hq:gI q):jQ (az p,az q)/\nq (az p) (az q)/\fO (bS (az p) (az q)):=by
 have hW:=cW
 have l1:=hp.gd.len
 have l2:=hq.gd.len
 have hX:2*((13+1)*(2*(156+1)*3^(13-1)))+2<=ag:=by rw[hW];decide
 have hb1:=hp.gd.bd.cu hp.gd.tr
 have hb2:=hq.gd.bd.cu hq.gd.tr
 refine⟨yt hp.gd.tr hq.gd.tr l1 l2 aa hp.gd.bd hq.gd.bd hX,⟨mK hb1 aa,mK hb2 aa,yt (m8 hp.gd.tr) (m8 hq.gd.tr) l1 l2 aa hb1 hb2 hX⟩,?_⟩
 obtain⟨B,b1,b2⟩:=BR hp.gd.tr hq.gd.tr l1 l2 hp.gd.bd hq.gd.bd
 have lg:(bS (az p) (az q)).1<=13:=o4 (s:=(az p,az q)) l1 l2 hp.gd.tr hq.gd.tr _
 have h3:3^(13-(bS (az p) (az q)).1)<=3^13:=wH aa
 have h4:=Nat.mul_le_mul_left (2*(156+1)) h3
 have m:=Nat.mul_le_mul lg lg
 exact wP b2 aa aa
theorem Md {n:Nat} {f:Nat->Rat}:ku n f n f=true:=decide_eq_true ⟨rfl,fun _ _=>rfl⟩
theorem xD {n:Nat} (h:n<=13):jy n<2^40:=by unfold jy;split<;>omega
theorem Wn {n:Nat} {c:Nat->PP}:uE n c n c=true:=decide_eq_true ⟨rfl,fun _ _=>Md⟩
theorem aeh {p q:PP} (hp:gI p) (hq:gI q):(l9 p q).1<2^40/\(mL p q).1<2^40:=by
 have l1:=hp.gd.len
 unfold l9 mL
 split
 ·exact⟨by show 0<_;omega,by show 0<_;omega⟩
 ·exact⟨xD (Nat.le_trans (show br _ _<=_ from eI) aa),xD (Nat.le_trans (show br _ _<=(az p).1 from eI) l1)⟩
theorem IS {p:PP} (hp:gI p):(jP p).1<2^40:=by
 unfold jP
 split
 ·show 0<_;omega
 ·rename_i h0;have:=(r9 hp.gd (hp.pos h0)).2;exact xD aa
theorem U5 {p:PP} (hp:gI p):jd p<2^40/\∀i,i<jd p->jy (cH (az p) i).1<2^40:=by
 unfold jd
 split
 ·exact⟨aa,fun i h=>aa⟩
 ·rename_i h0
  have:=sU hp.gd (hp.pos h0)
  exact⟨aa,fun i hi=>xD (by have:=(CJ hp.gd (hp.pos h0) hi).2;omega)⟩
theorem Gq {p q:PP} (hp:gI p) (hq:gI q):jy (bS (az p) (az q)).1<2^40:=xD (o4 (s:=(az p,az q)) hp.gd.len hq.gd.len hp.gd.tr hq.gd.tr _)
theorem WZ {n:Nat} {z:Nat->Int} (K:Nat):aP P 7 K [.ak 1 n (fun i=>.int .i64 (z i))] [] (aK (.bool true) []):=by
 have hW:=cW
 refine bZ (r:=aK (.bool true) []) hT aej hm Zk rfl aW rfl 60 Ny (fun _=>?_) K []
 have hp:=Lb (n:=n) (f:=fun i=>.int .i64 (z i)) (a:=0)
 have hq:=Lb (n:=n) (f:=fun i=>.int .i64 (z i)) (a:=qM n (fun i=>.int .i64 (z i)) 0)
 have hd:cU n (fun i=>AV.int .i64 (z i)) 0->cU n (fun i=>AV.int .i64 (z i)) (qM n (fun i=>.int .i64 (z i)) 0):=fun h=>h.eC _
 generalize oK n (fun i=>.int .i64 (z i)) (qM n (fun i=>.int .i64 (z i)) 0)=q at*
 generalize oK n (fun i=>.int .i64 (z i)) 0=p at*
 simp only[af.all,aA,Bool.not_eq_true',bB,Bool.not_eq_false',bw,Md,cond_true,beq_self_eq_true]
 have aR:∀{x:PP},cF (fun i=>.rat (x.2 i) ag) x.1 ag:=fun {x}=>cZ aQ
 have D:=St hp hq
 obtain⟨d1,d2⟩:=aeh hp hq
 obtain⟨m1,m2⟩:=U5 hp
 obtain⟨g1,g2,g3⟩:=adL hp hq
 refine⟨fun _=>.refl _,fun h=>⟨⟨⟨fun i=>rfl,aa,aa,aa⟩,F0,hd ⟨fun i=>rfl,aa,aa,aa⟩,F0⟩,⟨aR,aR,hp.of,hq.of,D⟩,⟨aR,aR,hp.of,hq.of,D⟩,⟨aR,hp.of,(K6 hp).1⟩,⟨aR,hp.of,(K6 hp).2⟩,⟨aR,(I4 hp).1⟩,⟨aR,(I4 hp).2⟩,?_,.refl _⟩⟩
 exact⟨trivial,aR,aR,d1,d1,trivial,aR,aR,d2,d2,trivial,trivial,aR,aR,IS hp,IS hp,trivial,trivial,fun i _=>.refl _,fun i _=>.refl _,m1,m1,m2,m2,Wn,aR,aR,hp.of,hq.of,g1,g3,aR,aR,hp.of,hq.of,g2,g3,cZ aQ,cZ aQ,Gq hp hq,Gq hp hq,trivial⟩
end Go.Am.B
