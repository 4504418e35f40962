/- roots.SignAt and ref06.SignAt. -/
import Derived.Test.YtolopdkjjlfgjaaGreatY40
set_option linter.unusedVariables false
noncomputable section
namespace Go.Am.B
open Go Go.Am.N AV af au IntKind Proofs.Tryz
def pW (d:PP) (s:Rat×Rat):Prop:=s.1≠s.2/\0<fR (aV d) (aS d) s.1 s.2
def vR (c d:PP) (s:Rat×Rat) (j:Nat):Prop:=¬pW d (ep (aV c) (aS c) s j)/\∀i,i<j->pW d (ep (aV c) (aS c) s i)
def ux (c d:PP) (s:Rat×Rat):Nat:=Classical.epsilon (vR c d s)
def jv (p:PP) (s:Rat×Rat):Int:=if(ak p).1=0 then 3 else if kH (ak p) s=true then 0 else 1
def nL (p q:PP):PP:=bL (aS (ak p) 0) (ak q)
def iR (p q:PP) (s:Rat×Rat):Bool:=decide ((ak q).1=0)||(decide (1<(nL p q).1)&&jL (aV (nL p q)) (aS (nL p q)) s.1 s.2)
def Gy (p q:PP) (s:Rat×Rat):Rat×Rat:=ep (aV (ak p)) (aS (ak p)) s (ux (ak p) (ak q) s)
def lY (p:PP) (s:Rat×Rat) (q:PP):Int:=if jv p s=0 then if iR p q s=true then 0 else bR (cC (ak q) (bE (Gy p q s).1 (Gy p q s).2))else 0
def A8:bG:=nG::(57,xd)::(59,wJ)::(104,CL)::(72,zq)::(74,AL)::(60,sX)::(106,FI)::(111,An)::(66,sk)::gF
abbrev x9:Code:=aJ f49
abbrev qC:List Nat:=[6,7,9,10,12,13]
abbrev vC (n:Nat) (c:Nat->PP) (d:PP) (m:Nat) (e:Nat->PP):List AV:=[.int .i64 0,.int .i64 0,gB n c,aO d,.ptr 0 0 6 0 [],gB m e]
abbrev vT (s:Rat×Rat):aG:=[(0,⟨false,true,6,1,fun _=>eu s.1 s.2 ag⟩)]
theorem aee:bC 49 f49:=bD func49
theorem P2 {p q:PP} {s:Rat×Rat} {t:Int}:aK T A8 [18,24,35,39,46] 60 qC (before x9 [1,1,1,1,1,1,1,1,0]) ⟨bf 0 [aO p,j0 (s,t),aO q],[],0⟩=
  let c23:AV:=rat 0 1;let c20:AV:=tuple [];let c19:Prop:=0<1;let c15:Rat:=aN (rat s.fst ag);let c14:Rat:=aN (rat s.snd ag);let c13:AV:=int i64 0;let c10:Nat:=cr (gI p.fst fun i=>aN (rat (p.snd i) ag)) p.fst;let c4:Nat:=cr (gI q.fst fun i=>aN (rat (q.snd i) ag)) q.fst;let c22:Prop:=bg (rat s.snd ag) (rat c14 ag);let c21:Prop:=bg (rat s.fst ag) (rat c15 ag);let c18:Bool:=(↑c4:Int)==0;let c12:Prop:=cX (fun i=>rat (gI q.fst (fun i=>aN (rat (q.snd i) ag)) i) ag) c4 ag;let c11:AV:=az 3 c4 fun i=>rat (gI q.fst (fun i=>aN (rat (q.snd i) ag)) i) ag;let c6:Nat×(Nat->Rat):=(c4,fun i=>aN (rat (gI q.fst (fun i=>aN (rat (q.snd i) ag)) i) ag));let c3:Nat×(Nat->Rat):=(c10,fun i=>aN (rat (gI p.fst (fun i=>aN (rat (p.snd i) ag)) i) ag));let c9:PP:=aS c3 (Int.toNat (0:Int));let c8:AV:=az 1 (aV c3) fun i=>az 3 (aS c3 i).fst fun i_1=>rat ((aS c3 i).snd i_1) ag;let c16:Nat×(Nat->Rat):=(c9.fst,fun i=>aN (rat (c9.snd i) ag));let c5:af (List AV×aG):=leaf ret ([c13,c13,c8,c11,c20,c20],[]);let c2:af (List AV×aG):=aj [c19,c12,jK c6,c19] (leaf normal ([c13,c13,c8,c11,ptr 180224 0 6 0 [],az 1 (aV c6) fun i=>az 3 (aS c6 i).fst fun i_1=>rat ((aS c6 i).snd i_1) ag],[(180224,aC.mk false true 6 1 fun j=>if(j==0)=true then dM (eu s.fst s.snd ag)else agg [c23,c23])]));let c1:PP:=(ct (c16,c6) c4).fst;let c17:Bool:=decide ((↑c1.fst:Int)>1);let c7:Nat×(Nat->Rat):=(c1.fst,fun i=>aN (rat (cT c1.fst c1.snd i) ag));some (aj [cX (fun i=>rat (p.snd i) ag) p.fst ag,iU (p.fst,fun i=>aN (rat (p.snd i) ag))] (fork ((↑c10:Int)==0) (leaf ret ([c13,int i64 3,c20,c20,c20,c20],[])) (aj [cX (fun i=>rat (gI p.fst (fun i=>aN (rat (p.snd i) ag)) i) ag) c10 ag,jK c3] (aj [c19,∀(i:Nat),i<aV c3->bg (aO (aS c3 i)) (aO (b7 (aO (aS c3 i)))),c21,c22,(0:Nat)<aV c3,aV c3<2^40,jk c15 c14=true->cJ (aV c3) (fun i=>b7 (aO (aS c3 i))) c15/\cJ (aV c3) (fun i=>b7 (aO (aS c3 i))) c14] (fork (!nW (aV c3) (fun i=>b7 (aO (aS c3 i))) (c15,c14)) (leaf ret ([c13,int i64 1,c8,c20,c20,c20],[])) (aj [cX (fun i=>rat (q.snd i) ag) q.fst ag,iU (q.fst,fun i=>aN (rat (q.snd i) ag))] (aj [(0:Int)<=0/\Int.toNat (0:Int)<aV c3,cX (fun i=>rat (c9.snd i) ag) c9.fst ag,c12,c9.fst<2^30,c4<2^30,Trim c16,Trim c6,oe (c16,c6)] (fork c18 (aj [c18=true] (fork true c5 c2)) (fork c17 (aj [c18=false,c17=true,cX (fun i=>rat (cT c1.fst c1.snd i) ag) c1.fst ag,jK c7,c19,∀(i:Nat),i<aV c7->bg (aO (aS c7 i)) (aO (b7 (aO (aS c7 i)))),c21,c22,(0:Nat)<aV c7,aV c7<2^40,cJ (aV c7) (fun i=>b7 (aO (aS c7 i))) c15,cJ (aV c7) (fun i=>b7 (aO (aS c7 i))) c14] (fork (bif false then true else bif true then jL (aV c7) (fun i=>b7 (aO (aS c7 i))) c15 c14 else false) c5 c2)) (aj [c18=false,c17=false] (fork false c5 c2))))))))))):=ah
theorem Uv {n m:Nat} {c e:Nat->PP} {d:PP} {s:Rat×Rat}:aK T A8 [57,65] 60 qC [part x9 [1,1,1,1,1,1,1,1,0,0,0]] ⟨aH qC (vC n c d m e),vT s,1⟩=
  let c11:AV:=rat s.snd ag;let c10:AV:=rat s.fst ag;let c8:Bool:=!decide (s.fst=s.snd);let c7:Int:=fR m (fun i=>b7 (aO (e i))) s.fst s.snd;let c6:Prop:=ag<2^42;let c4:Prop:=0<1;let c2:List AV:=[int i64 0,int i64 0,az 1 n fun i=>az 3 (c i).fst fun i_1=>rat ((c i).snd i_1) ag,az 3 d.fst fun i=>rat (d.snd i) ag,ptr 0 0 6 0 [],az 1 m fun i=>az 3 (e i).fst fun i_1=>rat ((e i).snd i_1) ag];let c5:Rat×Rat:=(aN c10,aN c11);let c3:af (List AV×aG):=leaf (exit 0) (c2,[(0,aC.mk false true 6 1 fun x=>agg [rat s.fst ag,rat s.snd ag])]);let c9:Rat×Rat:=iB n (fun i=>b7 (aO (c i))) c5;let c1:af (List AV×aG):=aj [c4,∀(i:Nat),i<n->bg (aO (c i)) (aO (b7 (aO (c i)))),bg c10 (rat (aN c10) ag),bg c11 (rat (aN c11) ag),sC n (fun i=>b7 (aO (c i))) c5,c4] (leaf normal (c2,[(0,aC.mk false true 6 1 fun j=>if(j==0)=true then dM (eu c9.fst c9.snd ag)else eu s.fst s.snd ag)]));some (fork c8 (aj [c4,c4,c6,c6,c8=true,c4,c4,∀(i:Nat),i<m->bg (aO (e i)) (aO (b7 (aO (e i)))),ag<=ag,ag<=ag,(0:Nat)<m,m<2^40,cJ m (fun i=>b7 (aO (e i))) s.fst,cJ m (fun i=>b7 (aO (e i))) s.snd] (fork (bif true then decide (c7>0)else false) c1 c3)) (aj [c4,c4,c6,c6,c8=false] (fork false c1 c3))):=ah
theorem WU {n m:Nat} {c e:Nat->PP} {d:PP} {s:Rat×Rat}:dJ T A8 [] 60 f49 [part x9 [1,1,1,1,1,1,1,1,1]] ⟨aH qC (vC n c d m e),vT s,1⟩=
  let c4:AV:=rat s.fst ag;let c3:AV:=rat s.snd ag;let c2:Nat×(Nat->Rat):=(d.fst,fun i=>aN (rat (d.snd i) ag));let c1:Rat:=bE (aN c4) (aN c3);some (aj [(0:Nat)<1,bg c4 (rat (aN c4) ag),bg c3 (rat (aN c3) ag),Sz c1 ag,cX (fun i=>rat (d.snd i) ag) d.fst ag,ag<=ag,d.fst<2^40,jx c2 c1,ag<2^42] (leaf ret [int i64 (bR (cC c2 c1)),int i64 0])):=ah
def Cr (g:PP) (s:Rat×Rat):Prop:=jK g/\vm g/\aV g<2^30/\cJ (aV g) (aS g) s.1/\cJ (aV g) (aS g) s.2
def Z3 (c d:PP) (u:Rat×Rat):Prop:=u.1<=u.2/\(pW d u->sC (aV c) (aS c) u)/\cJ (aV d) (aS d) u.1/\cJ (aV d) (aS d) u.2/\Sz (bE u.1 u.2) ag/\jx d (bE u.1 u.2)/\(u.1≠u.2->cC d (bE u.1 u.2)=0->0<fR (aV d) (aS d) u.1 u.2)
structure Yd (p q:PP) (s:Rat×Rat):Prop where
 f1:(aS (ak p) 0).1<2^30
 c1:(ak p).1<2^30
 d1:(ak q).1<2^30
 tf:Trim (aS (ak p) 0)
 tc:Trim (ak p)
 td:Trim (ak q)
 gf:oe (aS (ak p) 0,ak q)
 ge:Ho (ak p) (ak q)
 cg:Cr (nL p q) s
 ch:Cr (bL (ak p) (ak q)) s
 cd:(ak q).1≠0->Cr (ak q) s/\jx (ak q) s.1
 e1:(ak q).1≠0->s.1=s.2->iR p q s=true->cC (ak q) s.1=0
 e2:(ak q).1≠0->s.1≠s.2->(iR p q s=true↔1<(bL (ak p) (ak q)).1/\fR (aV (bL (ak p) (ak q))) (aS (bL (ak p) (ak q))) s.1 s.2=1)
 lp:iR p q s=false->vR (ak p) (ak q) s (ux (ak p) (ak q) s)/\∀j,j<=ux (ak p) (ak q) s->Z3 (ak p) (ak q) (ep (aV (ak p)) (aS (ak p)) s j)
def uv (p:PP) (s:Rat×Rat) (q:PP):Prop:=iU p/\iU q/\((ak p).1≠0->jK (ak p)/\vm (ak p)/\aV (ak p)<2^30/\(ak p).1<2^40/\nW (aV (ak p)) (aS (ak p)) s=kH (ak p) s/\(jk s.1 s.2=true->jx (ak p) s.1/\cJ (aV (ak p)) (aS (ak p)) s.1/\cJ (aV (ak p)) (aS (ak p)) s.2)/\(kH (ak p) s=true->Yd p q s))
theorem S1:cm P A8:=jh (aM AN (aM Bw (aM Hq (aM As (aM GP (aM u6 (aM O4 (aM GV (aM vX gU)))))))))
theorem vR.at {c d:PP} {s:Rat×Rat} {J j:Nat} (h:vR c d s J) (hj:j<=J):pW d (ep (aV c) (aS c) s j)↔j<J:=by
 constructor
 ·intro h1
  refine Decidable.byContradiction fun hn=>?_
  have:j=J:=aa
  subst this
  exact h.1 h1
 ·exact h.2 j
theorem SI {p q:PP} {s:Rat×Rat} {t:Int} (h:uv p s q) (K:Nat):aY P 49 K [aO p,j0 (s,t),aO q] [] (aT (.tuple [.int .i64 (lY p s q),.int .i64 (jv p s)]) []):=by
 have hW:=dc
 obtain⟨ho1,ho2,hall⟩:=h
 obtain⟨J,hJ⟩:∃J,J=ux (ak p) (ak q) s:=⟨_,rfl⟩
 have hrd:∀g:PP,∀i,i<aV g->bg (aO (aS g i)) (aO (b7 (aO (aS g i)))):=fun _ i _=>.refl _
 have rOK:∀{e v:Int},jv p s=e->lY p s q=v->∀us:List AV,∀o,mV f49 qC (.tuple [.int .i64 (lY p s q),.int .i64 (jv p s)]) (.int .i64 v::.int .i64 e::us,o):=fun {e v} h1 h2 us o=>⟨[.int .i64 v,.int .i64 e],rfl,by rw[h1,h2];exact⟨.refl _,.refl _,trivial⟩⟩
 refine pX (r:=aT (.tuple [.int .i64 (lY p s q),.int .i64 (jv p s)]) []) hT S1 hm aee rfl br rfl [1,1,1,1,1,1,1,1,0] (i:=0) (y:=part x9 [1,1,1,1,1,1,1,1,0,0,0]) (z:=part x9 [1,1,1,1,1,1,1,1,1]) ah ah ah (f1:=[18,24,35,39,46]) (f2:=[57,65]) (f3:=[]) 60 qC 1
  (fun _:Nat=>vC (aV (ak p)) (aS (ak p)) (ak q) (aV (ak q)) (aS (ak q))) (fun j=>vT (ep (aV (ak p)) (aS (ak p)) s j)) (fun j=>((ak p).1≠0/\kH (ak p) s=true/\iR p q s=false)/\j<=J) (fun j=>((ak p).1≠0/\kH (ak p) s=true/\iR p q s=false)/\j=J) (fun j=>J-j) (fun _=>⟨⟨_,P2,?_⟩,fun j ⟨⟨g1,g2,g3⟩,hj⟩=>⟨_,Uv,?_⟩,fun j ⟨⟨g1,g2,g3⟩,hj⟩=>⟨_,WU,?_⟩⟩) K []
 ·simp only[af.all,aF,Bool.not_eq_true',Bool.not_eq_false',cond_false,cond_true]
  refine⟨⟨mG,ho1⟩,fun hz=>?_,fun hz=>?_⟩
  ·have hz':(ak p).1=0:=by have hz:((ak p).1:Int)=0:=eq_of_beq hz;omega
   have he:jv p s=3:=if_pos hz'
   exact rOK he (if_neg (by rw[he];decide)) _ _
  ·have hz':(ak p).1≠0:=fun h0=>beq_eq_false_iff_ne.1 hz (show((ak p).1:Int)=0 by omega)
   obtain⟨k1,k1e,k2,k3,k4,k5,k6⟩:=hall hz'
   refine⟨⟨mG (a:=ak p),k1⟩,⟨aa,hrd _,.refl _,.refl _,Nat.succ_pos _,by show aV (ak p)<_;omega,fun hl=>⟨(k5 hl).2.1,(k5 hl).2.2⟩⟩,fun hf=>?_,fun hf=>?_⟩
   ·have hf:nW (aV (ak p)) (aS (ak p)) s=false:=hf
    rw[k4]at hf
    have he:jv p s=1:=by unfold jv;rw[if_neg hz',hf];rfl
    exact rOK he (if_neg (by rw[he];decide)) _ _
   ·have hf:nW (aV (ak p)) (aS (ak p)) s=true:=hf
    rw[k4]at hf
    have he:jv p s=0:=by unfold jv;rw[if_neg hz',hf];rfl
    have L:=k6 hf
    have early:iR p q s=true->∀us o,mV f49 qC (.tuple [.int .i64 (lY p s q),.int .i64 (jv p s)]) (.int .i64 0::.int .i64 0::us,o):=fun h us o=>rOK he (by unfold lY;rw[if_pos he,if_pos h]) us o
    have start:iR p q s=false->jK (ak q)->aF [0<1,aR (ak q),jK (ak q),0<1]/\Start [] (fun _:Nat=>vC (aV (ak p)) (aS (ak p)) (ak q) (aV (ak q)) (aS (ak q))) (fun j=>vT (ep (aV (ak p)) (aS (ak p)) s j)) 1 (fun j=>((ak p).1≠0/\kH (ak p) s=true/\iR p q s=false)/\j<=J) (mV f49 qC (.tuple [.int .i64 (lY p s q),.int .i64 (jv p s)])) .normal ([.int .i64 0,.int .i64 0,gB (aV (ak p)) (aS (ak p)),aO (ak q),ptr 180224 0 6 0 [],gB (aV (ak q)) (aS (ak q))],[(180224,aC.mk false true 6 1 fun j=>if(j==0)=true then dM (eu s.fst s.snd ag)else agg [rat 0 1,rat 0 1])]):=fun h hs=>
     ⟨⟨Nat.zero_lt_one,mG,hs,Nat.zero_lt_one⟩,0,⟨⟨hz',hf,h⟩,Nat.zero_le _⟩,[(0,180224)],rfl,rfl,rfl,kW rfl rfl (.inr ⟨rfl,.refl _⟩) trivial⟩
    refine⟨⟨mG,ho2⟩,⟨⟨Int.le_refl _,Nat.succ_pos _⟩,mG,mG (a:=ak q),L.f1,L.d1,L.tf,L.td,L.gf⟩,fun hq=>?_,fun hq=>⟨fun hg=>?_,fun hg=>?_⟩⟩
    ·have hq':(ak q).1=0:=by have hq:((ak q).1:Int)=0:=eq_of_beq hq;omega
     exact⟨hq,fun _=>early (by unfold iR;rw[decide_eq_true hq',Bool.true_or]) _ _,fun h=>Bool.noConfusion h⟩
    ·have hq':(ak q).1≠0:=fun h0=>beq_eq_false_iff_ne.1 hq (show((ak q).1:Int)=0 by omega)
     have hg':1<(nL p q).1:=by have hg:((nL p q).1:Int)>1:=of_decide_eq_true hg;omega
     have ee:iR p q s=jL (aV (nL p q)) (aS (nL p q)) s.1 s.2:=by unfold iR;rw[decide_eq_false hq',Bool.false_or,decide_eq_true hg',Bool.true_and]
     obtain⟨⟨m1,m2,m3,m4,m5⟩,m6⟩:=L.cd hq'
     obtain⟨w1,w2,w3,w4,w5⟩:=L.cg
     exact⟨⟨hq,hg,mG (a:=nL p q),w1,aa,hrd _,.refl _,.refl _,Nat.succ_pos _,by show aV (nL p q)<_;omega,w4,w5⟩,fun hh=>early (ee.trans hh) _ _,fun hh=>start (ee.trans hh) m1⟩
    ·have hq':(ak q).1≠0:=fun h0=>beq_eq_false_iff_ne.1 hq (show((ak q).1:Int)=0 by omega)
     have hg':¬1<(nL p q).1:=by have hg:¬((nL p q).1:Int)>1:=of_decide_eq_false hg;omega
     exact⟨⟨hq,hg⟩,fun h=>Bool.noConfusion h,fun _=>start (by unfold iR;rw[decide_eq_false hq',Bool.false_or,decide_eq_false hg',Bool.false_and]) (L.cd hq').1.1⟩
 ·obtain⟨k1,k1e,k2,k3,k4,k5,k6⟩:=hall g1
  have L:=k6 g2
  obtain⟨l1,l2⟩:=L.lp g3
  rw[<-hJ]at l1 l2
  have hd:(ak q).1≠0:=fun h0=>by unfold iR at g3;rw[decide_eq_true h0,Bool.true_or]at g3;cases g3
  obtain⟨⟨m1,m2,m3,m4,m5⟩,m6⟩:=L.cd hd
  obtain⟨v1,v2,v3,v4,v5,v6,v7⟩:=l2 j hj
  have hat:=l1.at hj
  have next:pW (ak q) (ep (aV (ak p)) (aS (ak p)) s j)->sC (aV (ak p)) (aS (ak p)) (ep (aV (ak p)) (aS (ak p)) s j)/\((((ak p).1≠0/\kH (ak p) s=true/\iR p q s=false)/\j+1<=J)/\J-(j+1)<J-j):=fun h=>⟨v2 h,⟨⟨g1,g2,g3⟩,hat.1 h⟩,by have:=hat.1 h;omega⟩
  have stop:¬pW (ak q) (ep (aV (ak p)) (aS (ak p)) s j)->((ak p).1≠0/\kH (ak p) s=true/\iR p q s=false)/\j=J:=fun h=>⟨⟨g1,g2,g3⟩,by have:¬j<J:=fun h2=>h (hat.2 h2);omega⟩
  have fin:∀b,b=j->fm [] (vC (aV (ak p)) (aS (ak p)) (ak q) (aV (ak q)) (aS (ak q)),vT (ep (aV (ak p)) (aS (ak p)) s j)) (vC (aV (ak p)) (aS (ak p)) (ak q) (aV (ak q)) (aS (ak q))) (vT (ep (aV (ak p)) (aS (ak p)) s b)) 1:=fun b hb=>by
   subst hb;exact⟨[(0,0)],rfl,rfl,rfl,fq trivial⟩
  simp only[af.all,aF,bI,bO,Bool.not_eq_true',Bool.not_eq_false',cond_true]
  refine⟨fun hne=>⟨⟨aa,aa,aa,aa,hne,aa,aa,hrd _,aa,aa,Nat.succ_pos _,by show aV (ak q)<_;omega,v3,v4⟩,fun hb=>?_,fun hb=>?_⟩,fun he=>⟨⟨aa,aa,aa,aa,he⟩,fun h=>Bool.noConfusion h,fun _=>?_⟩⟩
  ·obtain⟨i1,i2,i3⟩:=next ⟨hne,hb⟩
   exact⟨⟨aa,hrd _,.refl _,.refl _,i1,aa⟩,j+1,i2,i3,[(0,0)],rfl,rfl,rfl,fq trivial⟩
  ·exact⟨rfl,j,stop fun h=>hb h.2,fin j rfl⟩
  ·exact⟨rfl,j,stop fun h=>h.1 he,fin j rfl⟩
 ·obtain⟨k1,k1e,k2,k3,k4,k5,k6⟩:=hall g1
  have L:=k6 g2
  obtain⟨l1,l2⟩:=L.lp g3
  rw[<-hJ]at l1 l2
  obtain⟨v1,v2,v3,v4,v5,v6,v7⟩:=l2 j aa
  have he:jv p s=0:=by unfold jv;rw[if_neg g1,g2];rfl
  have hn:lY p s q=bR (cC (ak q) (bE (ep (aV (ak p)) (aS (ak p)) s j).1 (ep (aV (ak p)) (aS (ak p)) s j).2)):=by
   unfold lY Gy
   rw[if_pos he,g3,<-hJ,hj];rfl
  have hd1:=L.d1
  simp only[af.all,aF]
  rw[hn,he]
  exact⟨⟨aa,.refl _,.refl _,v5,mG,aa,aa,v6,aa⟩,.refl _,.refl _,trivial⟩
def Iz:Spec:=eR (kC (kL ag) (kC DF (kC (kL ag) kN))) (fun a=>.tuple [.int .i64 (lY a.1 a.2.1.1 a.2.2.1),.int .i64 (jv a.1 a.2.1.1)]) fun a=>[uv a.1 a.2.1.1 a.2.2.1]
theorem Xk:bF P Iz 49:=fk fun⟨_,⟨_,_⟩,_,_⟩ K hn=>SI hn K
end Go.Am.B
namespace Go.Am
theorem gm.rest {a b:PP} (h:gm a b) (h0:0<b.1):gm b (mL (a,b)).2:=by
 obtain⟨u,v,h⟩:=h
 refine⟨gE v (bP u (gJ a b)),eM (-1) u,fun t=>?_⟩
 have h1:=h t
 have h2:=qi (a:=a) h0 t
 have e:aq (mL (a,b)).2 t=((-1:Int):Rat)*aq (fe a b) t:=pM
 rw[show((-1:Int):Rat)=-1 from rfl]at e
 rw[e,iG,bQ,dZ];rw[h2]at h1;grind
theorem Lz {a b:PP} (ta:Trim a) (tb:Trim b) (h:gm a b):∀j,j<=fl (a,b)->gm (bZ (a,b) j).1 (bZ (a,b) j).2
 |0,_=>h
 |j+1,hj=>(Lz ta tb h j aa).rest (Nat.pos_of_ne_zero ((mc (s:=(a,b)) ta tb).2.2 j aa))
theorem IY {a:PP} (h:a.1<=1):∃k,∀t,aq a t=k:=by
 rcases Nat.eq_zero_or_pos a.1 with h0|h0
 ·exact⟨0,fun t=>iF h0 t⟩
 ·refine⟨a.2 0,fun t=>?_⟩
  show ev a.1 a.2 t=_
  rw[show a.1=1 by omega]
  show 0+a.2 0*t^0=_
  rw[Rat.pow_zero];grind
theorem FG {a w:PP} (ta:Trim a) (h:∀t,aq a t*aq w t=1):a.1<=1:=
 Dv.len (h:=a) (g:=fJ) ⟨w,fun t=>by rw[gH,h]⟩ (by decide) Cy ta
theorem P0 {a:PP} {s:Nat} (ta:Trim a) (h:Bd a s) (l1:a.1=1) {t w:Rat} (hw:Ab (aq a t) w):1<=w*T2 s:=by
 obtain⟨D,d1,d2,d3⟩:=h
 have e:aq a t=a.2 0:=by
  show ev a.1 a.2 t=_
  rw[l1]
  show 0+a.2 0*t^0=_
  rw[Rat.pow_zero];grind
 have hne:a.2 0≠0:=by
  rcases ta with h0|h0
  ·omega
  ·rw[l1]at h0;exact h0
 have hl:=(d3 0 aa).low d1 d2 hne
 rw[e]at hw
 obtain⟨w1,w2⟩:=hw
 have hT:=jO s
 have p1:=Rat.mul_nonneg (a:=w-a.2 0) (b:=T2 s) (by grind) (by grind)
 have p2:=Rat.mul_nonneg (a:=w+a.2 0) (b:=T2 s) (by grind) (by grind)
 rcases hl with hl|hl<;>grind
theorem uU {w:Rat} {m n:Nat} (hw:0<=w) (h:m<=n):w*T2 m<=w*T2 n:=Rat.mul_le_mul_of_nonneg_left (jq h) hw
theorem JF {x y z q w:Rat} {Q:Nat} (e:x=q*y+z) (hx:Ab x w) (hy:Ab y w) (hq:Ab q (T2 Q)):Ab (-1*z) (w*T2 (Q+1)):=by
 have h1:=hx.sub (hq.mul hy)
 rw[show x-q*y=z by grind]at h1
 have hw:=hx.pos
 have:=Rat.mul_nonneg (a:=T2 Q-1) (b:=w) (by have:=rX Q;grind) hw
 rw[nC]
 unfold Ab at*
 constructor<;>grind
theorem Jm {a b:PP} {u r B:Nat} (ta:Trim a) (tb:Trim b) (la:a.1<=7) (lb:b.1<a.1) (ha:Bd a u) (hb:Bd b u) (h:gm a b) {t:Rat} (ht:Ab t (T2 r)) (hB:2*(u+1)*729<=B+1):∀i,i<=fl (a,b)->∀w,Ab (aq (bZ (a,b) (fl (a,b)-i)).1 t) w->Ab (aq (bZ (a,b) (fl (a,b)-i)).2 t) w->1<=w*T2 (B+i*(8*B+7*(r+1)+8))
 |0,_=>fun w h1 h2=>by
  have hK:=Nat.le_refl (fl (a,b))
  rw[Nat.sub_zero]at h1 h2
  obtain⟨B',b1,b2,b3,b4,b5⟩:=zw ta tb la lb ha hb (fl (a,b)) hK
  have h3:3^(7-(bZ (a,b) (fl (a,b))).1.1)<=3^6:=uc aa
  have h4:=Nat.mul_le_mul_left (2*(u+1)) h3
  obtain⟨u',v',hc⟩:=Lz ta tb h _ hK
  have hz:=(mc (s:=(a,b)) ta tb).2.1
  have hl:=FG (w:=u') (m9 (s:=(a,b)) ta tb (fl (a,b))).1 fun t=>by have:=hc t;rw[iF hz]at this;grind
  exact Rat.le_trans (P0 (m9 (s:=(a,b)) ta tb (fl (a,b))).1 b2 aa h1) (uU h1.pos aa)
 |i+1,hi=>fun w h1 h2=>by
  obtain⟨K,hK⟩:∃K,K=fl (a,b):=⟨_,rfl⟩
  obtain⟨j,hj⟩:∃j,j+1=K-i:=⟨K-i-1,aa⟩
  have ih:=Jm ta tb la lb ha hb h ht hB i aa
  rw[<-hK]at ih h1 h2
  rw[<-hj]at ih
  rw[show K-(i+1)=j by omega]at h1 h2
  obtain⟨B',b1,b2,b3,b4,b5⟩:=zw ta tb la lb ha hb j aa
  have h3:3^(7-(bZ (a,b) j).1.1)<=3^6:=uc aa
  have h4:=Nat.mul_le_mul_left (2*(u+1)) h3
  have h0:0<(bZ (a,b) j).2.1:=Nat.pos_of_ne_zero ((mc (s:=(a,b)) ta tb).2.2 j aa)
  have ht2:=(m9 (s:=(a,b)) ta tb j).2
  have hB':B'<=B:=aa
  have hih:∀w,Ab (aq (bZ (a,b) j).2 t) w->Ab (-1*aq (fe (bZ (a,b) j).1 (bZ (a,b) j).2) t) w->1<=w*T2 (B+i*(8*B+7*(r+1)+8)):=fun w k1 k2=>by
   refine ih w k1 ?_
   have e:aq (mL (bZ (a,b) j)).2 t=((-1:Int):Rat)*aq (fe (bZ (a,b) j).1 (bZ (a,b) j).2) t:=pM
   show Ab (aq (mL (bZ (a,b) j)).2 t) w
   rw[e];exact k2
  generalize bZ (a,b) j=s at*
  have hr:=(b2.rem b3 h0 ht2).2.1
  have hM:s.1.1-(s.2.1-1)<=7:=aa
  have hm:=Nat.mul_le_mul_right (B'+1) hM
  have hlq:(gJ s.1 s.2).1<=7:=Nat.le_trans (show cr _ _<=_ from fU) hM
  have hq:=E5 (cW.cf (hr.more (t:=8*B+7) aa)) hlq ht
  have hrr:=JF (qi (a:=s.1) h0 t) h1 h2 hq
  have hw:=h1.pos
  have key:=hih (w*T2 (8*B+7+7*(r+1)+1)) (h2.more (by
   have:=Rat.mul_nonneg (a:=w) (b:=T2 (8*B+7+7*(r+1)+1)-1) hw (by have:=rX (8*B+7+7*(r+1)+1);grind)
   grind)) hrr
  rw[Rat.mul_assoc,<-nh]at key
  rwa [show 8*B+7+7*(r+1)+1+(B+i*(8*B+7*(r+1)+8))=B+(i+1)*(8*B+7*(r+1)+8) by rw[Nat.add_mul i 1,Nat.one_mul];omega]at key
theorem Eu {a b:PP} (ta:Trim a) (tb:Trim b) (la:a.1<=7) (lb:b.1<a.1) (ha:Bd a 1601) (hb:Bd b 1601) (h:gm a b) {t w:Rat} (ht:Ab t (T2 7)) (h1:Ab (aq a t) w) (h2:Ab (aq b t) w):1<=w*T2 114450419:=by
 have hk:=(mc (s:=(a,b)) ta tb).1
 have hk:fl (a,b)<=b.1:=hk
 have:=Jm (B:=2335715) ta tb la lb ha hb h ht aa (fl (a,b)) aX w
 rw[Nat.sub_self]at this
 exact Rat.le_trans (this h1 h2) (uU h1.pos aa)
theorem aaa {a b:PP} (ta:Trim a) (tb:Trim b) (la:a.1<=7) (lb:b.1<=7) (ha:Bd a 800) (hb:Bd b 800) (h:gm a b) {t w:Rat} (ht:Ab t (T2 7)) (h1:Ab (aq a t) w) (h2:Ab (aq b t) w):1<=w*T2 133136203:=by
 have hw:=h1.pos
 rcases Nat.lt_trichotomy a.1 b.1 with hl|hl|hl
 ·exact Rat.le_trans (Eu tb ta lb hl (hb.more (by decide)) (ha.more (by decide)) h.symm ht h2 h1) (uU hw (by decide))
 ·have hb0:0<b.1:=by
   rcases Nat.eq_zero_or_pos b.1 with h0|h0
   ·obtain⟨u,v,e⟩:=h
    have:=e 0
    rw[iF h0,iF (hl.trans h0)]at this
    exact absurd this (by grind)
   ·exact h0
  have hr:=ha.rem hb hb0 tb
  rw[show a.1-(b.1-1)=1 by omega]at hr
  have hlq:(gJ a b).1<=7:=Nat.le_trans (show cr _ _<=a.1-(b.1-1)from fU) aa
  have hq:=E5 (cW.cf (Bd.more hr.2.1 (show 800+1*(800+1)<=1601 by decide))) hlq ht
  have e:aq (mL (a,b)).2 t=((-1:Int):Rat)*aq (fe a b) t:=pM
  have hrr:=JF (qi (a:=a) hb0 t) h1 h2 hq
  have key:=Eu (a:=b) (b:=(mL (a,b)).2) tb (uB (a:=fe a b) sW (by decide)) lb (oG hb0 tb) (hb.more (by decide)) (Bd.more hr.1 (show 800+1*(800+1)<=1601 by decide)).neg (h.rest hb0) ht (w:=w*T2 (1601+7*(7+1)+1)) (h2.more (by
   have:=Rat.mul_nonneg (a:=w) (b:=T2 (1601+7*(7+1)+1)-1) hw (by have:=rX (1601+7*(7+1)+1);grind)
   grind)) (by rw[e];exact hrr)
  rw[Rat.mul_assoc,<-nh]at key
  exact Rat.le_trans key (uU hw (by decide))
 ·exact Rat.le_trans (Eu ta tb la hl (ha.more (by decide)) (hb.more (by decide)) h ht h1 h2) (uU hw (by decide))
theorem gm.dF {F G F1:PP} (h:gm F (bh F)) (e:∀t,aq F t=aq G t*aq F1 t):gm G (bh G):=by
 obtain⟨u,v,h⟩:=h
 refine⟨gE (bP u F1) (bP v (bh F1)),bP v F1,fun t=>?_⟩
 have h1:=h t
 rw[e,fF,ku e,<-fF,<-fF]at h1
 rw[iG,bQ,bQ,bQ,<-h1];grind
theorem Z1 {G:PP} (tG:Trim G) (g0:0<G.1) (h:gm G (bh G)):∃k:Rat,k≠0/\∀t,aq G t=k*aq (aW G) t:=by
 obtain⟨G0,e,_,tG0,h1,_⟩:=ng tG g0
 obtain⟨w,hw⟩:=EJ tG g0 tG g0 h (.refl G)
 have hF:=ue tG g0
 have h2:∀t,aq G0 t*aq w t=1:=fun t=>by
  have:=vH (g:=aW G) (a:=bP G0 w) (b:=fJ) hF iA (fun t=>by
   have e2:=hw t
   rw[h1]at e2
   rw[bQ,gH];grind) t
  rwa [bQ,gH]at this
 obtain⟨k,hk⟩:=IY (FG tG0 h2)
 refine⟨k,fun h0=>?_,fun t=>by rw[h1,hk]⟩
 have:=h2 0
 rw[hk,h0,Rat.zero_mul]at this
 exact absurd this (by decide)
theorem eF.mul {a b c d:Rat} (h:eF a b) (h':eF c d):eF (a*c) (b*d):=by
 have pp:∀{x y:Rat},0<x->0<y->0<x*y:=fun h1 h2=>Rat.mul_pos h1 h2
 unfold eF at*
 rcases h with⟨h1,h2⟩|⟨h1,h2⟩<;>rcases h' with⟨h3,h4⟩|⟨h3,h4⟩
 ·exact .inl ⟨pp h1 h3,pp h2 h4⟩
 ·have p1 := pp h1 (show 0 < -c by grind)
  have p2 := pp h2 (show 0 < -d by grind)
  exact .inr ⟨by grind,by grind⟩
 ·have p1 := pp (show 0 < -a by grind) h3
  have p2 := pp (show 0 < -b by grind) h4
  exact .inr ⟨by grind,by grind⟩
 ·have p1 := pp (show 0 < -a by grind) (show 0 < -c by grind)
  have p2 := pp (show 0 < -b by grind) (show 0 < -d by grind)
  exact .inl ⟨by grind,by grind⟩
theorem eF.self {k:Rat} (h:k≠0):eF k k:=by unfold eF;grind
theorem OF {F G F1:PP} (hF:ck F) (l7:F.1<=7) (e:∀t,aq F t=aq G t*aq F1 t) {x y:Rat} (hr:Rg 7 x y) (hs:¬eF (aq F x) (aq F y)) (hx:aq F x≠0) (hy:aq F y≠0) (hG:eF (aq G x) (aq G y)):
  ∃A:PP,Trim A/\A.1<=7/\Bd A 800/\Dv A F1/\Ab (aq A x) ((y-x)*T2 912):=by
 have d1:Dv (b9 F1) F:=⟨G,fun t=>by rw[e,dP,Rat.mul_comm]⟩
 have hl:=d1.len hF.p0 hF.tr eZ
 have p1:0<(b9 F1).1:=by
  rcases Nat.eq_zero_or_pos (b9 F1).1 with h0|h0
  ·exact absurd (by rw[e,<-dP (a:=F1),iF h0,Rat.mul_zero]) hx
  ·exact h0
 have hb:=(hF.dv _ eZ p1 d1).1
 have tA:=oo (eZ (a:=F1))
 have back:=fun t=>AU (t:=t) (eZ (a:=F1))
 obtain⟨k,hk⟩:∃k,k=(b9 F1).2 ((b9 F1).1-1):=⟨_,rfl⟩
 have hk0:k≠0:=by
  rcases eZ (a:=F1)with h|h
  ·omega
  ·rw[hk];exact h
 rw[<-hk]at back
 have lA:(gq (b9 F1)).1<=7:=Nat.le_trans hl l7
 generalize gq (b9 F1)=A at*
 have back:∀t,aq F1 t=k*aq A t:=fun t=>by rw[<-dP,back]
 have ax:aq A x≠0:=fun h0=>hx (by rw[e,back,h0];grind)
 have ay:aq A y≠0:=fun h0=>hy (by rw[e,back,h0];grind)
 have hsA:¬eF (aq A x) (aq A y):=fun hA=>hs (by rw[e,e,back,back];exact hG.mul ((eF.self hk0).mul hA))
 obtain⟨q,q1,q2⟩:=AZ hr.ab.1 hr.ab.2 A.1 (cW.cf hb)
 have self:Ab (y-x) (y-x):=by have:=hr.2.2;exact⟨by grind,by grind⟩
 refine⟨A,tA,lA,hb,⟨eM k fJ,fun t=>by rw[dZ,gH,back];grind⟩,(F8 (self.mul (q2.more (jq ?_))) q1 hsA ax ay).1⟩
 have:=Nat.mul_le_mul_right (7+1) lA
 omega
theorem afI {c d g:PP} (hc:ck c) (hd:ck d) (hg:ck g) (hdv:∀k:PP,Dv k c->Dv k d->Dv k g) {x y:Rat} (hr:Rg 7 x y) (hf:(y-x)*T2 133140000<1) (h1:bt c x y=1) (h2:0<bt d x y) (h3:bt g x y<=0):False:=by
 have hw:0<=y-x:=by have:=hr.2.2;grind
 have le:∀{m:Nat},m<=133140000->(y-x)*T2 m<1:=fun hm=>by have:=uU hw hm;grind
 obtain⟨fc,lc⟩:=hc.free
 obtain⟨fd,ld⟩:=hd.free
 have hfe:mQ 1176605 9412848 7<=133140000:=by decide
 have c1:=hc.fG.near hr (le hfe)
 have d1:=hd.fG.near hr (le hfe)
 rw[od hr.2.2]at h1 h2
 have cF:¬eF (aq (aW c) x) (aq (aW c) y)/\aq (aW c) x≠0/\aq (aW c) y≠0:=by
  rcases c1 with⟨e,n,_⟩|⟨e,n,s,_⟩
  ·rw[if_neg n]at h1;omega
  ·exact⟨s,n,fun h0=>by rw[if_pos h0]at h1;omega⟩
 have cH:¬eF (aq (aW d) x) (aq (aW d) y)/\aq (aW d) x≠0/\aq (aW d) y≠0:=by
  rcases d1 with⟨e,n,_⟩|⟨e,n,s,_⟩
  ·rw[if_neg n]at h2;omega
  ·exact⟨s,n,fun h0=>by rw[if_pos h0]at h2;omega⟩
 obtain⟨F1,H1,e1,e2,cop⟩:=Cq (a:=aW c) (b:=aW d) iA iA fc.p0
 have hdG:=l9 (a:=aW c) (b:=aW d) iA iA
 have gG:ck (bL (aW c) (aW d)):=fc.qL (j8 iA iA) (mP fc.p0) hdG.1 (sw (a:=(ct (aW c,aW d) (aW d).1).1) (tO (s:=(aW c,aW d)) fc.p0 _) (mH (s:=(aW c,aW d)) iA iA _).1)
 have up:∀{c:PP},ck c->Dv (aW c) c:=fun hc=>by
  obtain⟨G,e,_,_,h,_⟩:=ng hc.tr hc.p0
  exact⟨G,fun t=>by rw[h,Rat.mul_comm]⟩
 have dg:=hdv _ (hdG.1.trans (up hc)) (hdG.2.trans (up hd))
 have b1:=zn hg.fG gG.fG (yJ hg.tr hg.p0 gG.tr gG.p0 dg) x y
 have b2:=gG.fG.oz x y
 have g1:=gG.fG.near hr (le hfe)
 obtain⟨k,hk,hkt⟩:=Z1 gG.tr gG.p0 ((zB hc.tr hc.p0).dF e1)
 generalize bL (aW c) (aW d)=G at*
 have gx:aq (aW G) x≠0:=fun h0=>cF.2.1 (by rw[e1,hkt,h0];grind)
 have gy:aq (aW G) y≠0:=fun h0=>cF.2.2 (by rw[e1,hkt,h0];grind)
 have gS:eF (aq G x) (aq G y):=by
  rw[od hr.2.2,if_neg gy]at b1 b2
  rcases g1 with⟨e,n,s,_⟩|⟨e,_⟩
  ·rw[hkt,hkt];exact(eF.self hk).mul (s.resolve_left gx)
  ·omega
 obtain⟨A,tA,lA,bA,dA,sA⟩:=OF fc lc e1 hr cF.1 cF.2.1 cF.2.2 gS
 obtain⟨B,tB,lB,bB,dB,sB⟩:=OF fd ld e2 hr cH.1 cH.2.1 cH.2.2 gS
 have key:=aaa tA tB lA lB bA bB ((cop.qL dA).symm.qL dB).symm hr.ab.1 sA sB
 rw[Rat.mul_assoc,<-nh]at key
 have:=le (m:=912+133136203) (by decide)
 grind
end Go.Am
namespace Go.Am.B
open Go Go.Am.N AV af au IntKind Proofs.Tryz
theorem Dz.oB {c:PP} (hc:ck c) {j:Nat} {z:Rat} (h:Dz j z) (hj:j<=2147000000):cJ (aV c) (aS c) z:=DC hc h (mZ j).2 (mZ j).1 aa
theorem Dz.E8 {c:PP} (hc:ck c) {j:Nat} {z:Rat} (h:Dz j z) (hj:j<=2147000000):jx c z:=by
 have hW:=dc
 exact DA hc.bd h (mZ j).2 (mZ j).1 hc.len aa
theorem Dz.L5 {j:Nat} {z:Rat} (h:Dz j z) (hj:j<=2147000000):Sz z ag:=by
 have hW:=dc
 exact(bY.sz (mZ j).1 (mZ j).2 h).more aa
theorem Dz.chain {c:PP} (hc:ck c) {j:Nat} {s:Rat×Rat} (h1:Dz j s.1) (h2:Dz j s.2) (hj:j<=2147000000):Cr c s:=
 ⟨(qH hc).1,(qH hc).2,by have:=wj hc;omega,h1.oB hc hj,h2.oB hc hj⟩
theorem NW {c:PP} (h:ck c) {x y x' y':Rat} (h1:x<=x') (h2:y'<=y):bt c x' y'<=bt c x y:=by
 have nn:=h.fG.oz
 by_cases hxy:x'<y'
 ·have a:bt c x' y'<=bt c x' y:=by
   by_cases e:y'=y
   ·rw[e];exact Int.le_refl _
   ·rw[oI hxy (show y'<y by grind)]
    have:=nn y' y
    split<;>omega
  have b:bt c x' y<=bt c x y:=by
   by_cases e:x=x'
   ·rw[e];exact Int.le_refl _
   ·rw[oI (show x<x' by grind) (show x'<y by grind)]
    have:=nn x x'
    split<;>omega
  omega
 ·rw[show bt c x' y'=0 from if_pos (by grind)];exact nn x y
theorem wV {c d:PP} (hc:ck c) (td:Trim d):ck (bL c d):=
 hc.qL (j8 hc.tr td) (mP hc.p0) (l9 hc.tr td).1 (sw (a:=(ct (c,d) d.1).1) (tO (s:=(c,d)) hc.p0 _) (mH (s:=(c,d)) hc.tr td _).1)
theorem Mq {c:PP} (hc:ck c):Dv (aW c) c:=by
 obtain⟨G,e,_,_,h,_⟩:=ng hc.tr hc.p0
 exact⟨G,fun t=>by rw[h,Rat.mul_comm]⟩
theorem Je {c d:PP} (hc:ck c) (td:Trim d) (x y:Rat):bt (bL (aW c) d) x y=bt (bL c d) x y:=by
 have fc:=hc.free.1
 have g1:=wV fc td
 have g2:=wV hc td
 have d1:=l9 fc.tr td
 have d2:=l9 hc.tr td
 have a:=zn g2.fG g1.fG (yJ g2.tr g2.p0 g1.tr g1.p0 (qM (d1.1.trans (Mq hc)) d1.2)) x y
 have k:=yJ hc.tr hc.p0 g2.tr g2.p0 d2.1
 have b:=zn g1.fG g2.fG (EJ g1.tr g1.p0 iA (ue g2.tr g2.p0) (zB g2.tr g2.p0) (qM k ((Mq g2).trans d2.2))) x y
 omega
theorem zI {c:PP} {x y:Rat} (hxy:x≠y):fD c x y=true↔bt c x y≠0:=by
 unfold fD
 rw[if_neg hxy,kU,decide_eq_true_iff]
def oN (c:PP) (s u:Rat×Rat):Prop:=s.1<=u.1/\u.2<=s.2/\(u.1<u.2->bt c u.1 u.2=1)
theorem oN.half {c:PP} (hc:ck c) {s u:Rat×Rat} (h:oN c s u) (hu:u.1<u.2):oN c s (iB (aV c) (aS c) u):=by
 obtain⟨h1,h2,h3⟩:=h
 obtain⟨m1,m2,_⟩:=qJ hu
 have h3:=h3 hu
 unfold iB
 split
 ·exact⟨by grind,by grind,fun h=>by grind⟩
 ·rename_i hr
  rw[kU]
  split
  ·rename_i hb
   exact⟨h1,by grind,fun _=>hb⟩
  ·rename_i hb
   refine⟨by grind,h2,fun _=>?_⟩
   rw[oI m1 m2,if_neg (fun h0=>hr (by rw[jw];exact h0))]at h3
   have a:=hc.fG.oz u.1 (bE u.1 u.2)
   have b:=hc.fG.oz (bE u.1 u.2) u.2
   show bt c (bE u.1 u.2) u.2=1
   omega
theorem oN.all {c d:PP} (hc:ck c) {s:Rat×Rat} {J:Nat} (h0:oN c s s) (hs:s.1<=s.2) (hz1:Dz J s.1) (hz2:Dz J s.2):∀j,(∀i,i<j->pW d (ep (aV c) (aS c) s i))->oN c s (ep (aV c) (aS c) s j)
 |0,_=>h0
 |j+1,h=>by
  have ih:=oN.all hc h0 hs hz1 hz2 j fun i hi=>h i aa
  have h1:=(h j aa).1
  have h2:=(zE (n:=aV c) (c:=aS c) hs hz1 hz2 j).2.2.1
  exact ih.half hc (by grind)
theorem Qp {P:Nat->Prop} (n:Nat):(∃j,j<=n/\¬P j/\∀i,i<j->P i)\/∀i,i<=n->P i:=by
 induction n with
 |zero=>
  by_cases h:P 0
  ·exact .inr fun i hi=>by rw[Nat.le_zero.1 hi];exact h
  ·exact .inl ⟨0,aX,h,fun i hi=>absurd hi (Nat.not_lt_zero i)⟩
 |succ n ih=>
  rcases ih with⟨j,h1,h2⟩|h
  ·exact .inl ⟨j,aa,h2⟩
  ·by_cases h1:P (n+1)
   ·exact .inr fun i hi=>by
     rcases Nat.lt_or_ge i (n+1)with h2|h2
     ·exact h i aa
     ·rw[show i=n+1 by omega];exact h1
   ·exact .inl ⟨n+1,aX,h1,fun i hi=>h i aa⟩
theorem XQ {a:PP} {s:Nat} (h:a.1=0):Bd a s:=⟨1,by decide,Nat.one_le_two_pow,fun i hi=>absurd hi aa⟩
theorem Y3 {p q:PP} {s:Rat×Rat} {J:Nat} (hp:iU p) (hq:iU q) (hg:(ak p).1≠0->ck (ak p)) (hd:(ak q).1≠0->ck (ak q)) (h1:Dz J s.1) (h2:Dz J s.2) (hJ:J<=cj) (b1:-(128:Rat)<=s.1) (b2:s.2<=128):uv p s q:=by
 have hD:=nD
 have hJ2:J<=2147000000:=aa
 refine⟨hp,hq,fun h0=>?_⟩
 have hc:=hg h0
 refine⟨(qH hc).1,(qH hc).2,by have:=wj hc;omega,by have:=hc.len;omega,?_,fun _=>⟨h1.E8 hc hJ2,h1.oB hc hJ2,h2.oB hc hJ2⟩,fun hf=>?_⟩
 ·unfold nW kH
  rw[decide_eq_decide.2 (tT hc)]
 have hft:=Bool.and_eq_true _ _▸(show(jk s.1 s.2&&(if s.1=s.2 then decide (cC (ak p) s.1=0)else decide (fR (aV (ak p)) (aS (ak p)) s.1 s.2=1)))=true from hf)
 have hle:s.1<=s.2:=vE.1 hft.1
 have hb1:s.1≠s.2->bt (ak p) s.1 s.2=1:=fun hne=>by
  have:=hft.2
  rw[if_neg hne]at this
  rw[<-kU];exact of_decide_eq_true this
 have hW:=dc
 have td:Trim (ak q):=mU
 obtain⟨c,ec⟩:∃c,c=ak p:=⟨_,rfl⟩
 obtain⟨d,ed⟩:∃d,d=ak q:=⟨_,rfl⟩
 have fc:=hc.free.1
 have l7:=hc.free.2
 have g1:=wV fc td
 have g2:=wV hc td
 have bd:Bd (ak q) 806/\(ak q).1<=13:=by
  by_cases hz:(ak q).1=0
  ·exact⟨XQ hz,aa⟩
  ·exact⟨(hd hz).bd.more aa,(hd hz).len⟩
 have h13:2*((13+1)*(2*(806+1)*3^(13-1)))+2<=ag:=by rw[hW];decide
 have hE:(ak q).1≠0->iR p q s=fD (bL (aW (ak p)) (ak q)) s.1 s.2:=fun hz=>by
  have:iR p q s=(decide (1<(bL (aW (ak p)) (ak q)).1)&&jL (aV (bL (aW (ak p)) (ak q))) (aS (bL (aW (ak p)) (ak q))) s.1 s.2):=by
   unfold iR
   rw[decide_eq_false hz,Bool.false_or];rfl
  rw[this,EC g1]
  cases hh:fD (bL (aW (ak p)) (ak q)) s.1 s.2 with
  |false=>rw[Bool.and_false]
  |true=>rw[decide_eq_true (vZ g1 hh)];rfl
 refine {f1:=(by show(aW (ak p)).1<_;omega),c1:=(by have:=hc.len;omega),d1:=aa,tf:=iA,tc:=hc.tr,td:=td,gf:=wB iA td (by show(aW (ak p)).1<=13;omega) bd.2 aa (fc.bd.more aa) bd.1 h13,ge:=⟨ke (hc.bd.cT hc.tr) aa,ke (bd.1.cT td) aa,wB (oo hc.tr) (oo td) hc.len bd.2 aa ((hc.bd.more aa).cT hc.tr) (bd.1.cT td) h13⟩,cg:=h1.chain g1 h2 hJ2,ch:=h1.chain g2 h2 hJ2,cd:=fun hz=>⟨h1.chain (hd hz) h2 hJ2,h1.E8 (hd hz) hJ2⟩,e1:=fun hz he hh=>?_,e2:=fun hz hne=>?_,lp:=fun hh=>?_}
 ·rw[hE hz]at hh
  unfold fD at hh
  rw[if_pos he]at hh
  have hh:=of_decide_eq_true hh
  obtain⟨w,hw⟩:=(l9 fc.tr td).2
  rw[show cC (bL (aW (ak p)) (ak q)) s.1=Go.Am.aq (bL (aW (ak p)) (ak q)) s.1 from jw]at hh
  rw[show cC (ak q) s.1=Go.Am.aq (ak q) s.1 from jw,hw,hh,Rat.zero_mul]
 ·rw[hE hz,zI hne,Je hc td,kU]
  have k:=zn hc.fG g2.fG (yJ hc.tr hc.p0 g2.tr g2.p0 (l9 hc.tr td).1) s.1 s.2
  have nn:=g2.fG.oz s.1 s.2
  rw[hb1 hne]at k
  exact⟨fun h=>⟨vZ g2 ((zI hne).2 h),aa⟩,fun h=>aa⟩
 ·have hz:(ak q).1≠0:=fun h0=>by unfold iR at hh;rw[decide_eq_true h0,Bool.true_or]at hh;cases hh
  have hdq:=hd hz
  rw[hE hz]at hh
  have hI:oN (ak p) s s:=⟨Rat.le_refl,Rat.le_refl,fun h=>hb1 (by grind)⟩
  have far:(∀i,i<=133140010->pW (ak q) (ep (aV (ak p)) (aS (ak p)) s i))->False:=fun hall=>by
   have hi:=oN.all (d:=ak q) hc hI hle h1 h2 133140010 fun i h=>hall i aa
   obtain⟨_,_,k3,k4⟩:=zE (n:=aV (ak p)) (c:=aS (ak p)) hle h1 h2 133140010
   obtain⟨n1,n2⟩:=hall 133140010 aX
   have hne:s.1≠s.2:=(hall 0 (Nat.zero_le _)).1
   generalize ep (aV (ak p)) (aS (ak p)) s 133140010=u at*
   have hu:u.1<u.2:=by grind
   rw[kU]at n2
   have hg0:bt (bL (ak p) (ak q)) s.1 s.2=0:=Decidable.byContradiction fun h=>by
    rw[<-Je hc td]at h
    rw[(zI hne).2 h]at hh;cases hh
   have hm:=NW g2 hi.1 hi.2.1
   have t7:T2 7=128:=by unfold T2;decide+kernel
   refine afI (x:=u.1) (y:=u.2) hc hdq g2 (fun k e1 e2=>qM e1 e2) ⟨by rw[t7];have:=hi.1;grind,by rw[t7];have:=hi.2.1;grind,hu⟩ ?_ (hi.2.2 hu) n2 aa
   have e:T2 133140010=T2 10*T2 133140000:=by rw[<-nh]
   have t10:T2 10=1024:=by unfold T2;decide+kernel
   rw[e,t10]at k4
   grind
  have hfin:vR (ak p) (ak q) s (ux (ak p) (ak q) s):=by
   refine Classical.epsilon_spec (p:=vR (ak p) (ak q) s) ?_
   rcases Qp (P:=fun i=>pW (ak q) (ep (aV (ak p)) (aS (ak p)) s i)) 133140010 with⟨j,_,h3,h4⟩|h
   ·exact⟨j,h3,h4⟩
   ·exact(far h).elim
  have hj0:ux (ak p) (ak q) s<=133140010:=Decidable.byContradiction fun hn=>far fun i hi=>hfin.2 i aa
  refine⟨hfin,fun j hj=>?_⟩
  obtain⟨k1,k2,k3,k4⟩:=zE (n:=aV (ak p)) (c:=aS (ak p)) hle h1 h2 j
  have hJ3:J+j<=2147000000:=aa
  have hJ4:J+j+1<=2147000000:=aa
  refine⟨k3,fun hs=>⟨Nat.succ_pos _,by have:=wj hc;omega,by have:=hs.1;grind,k1.oB hc hJ3,(k1.mid k2).oB hc hJ4,(k1.mid k2).L5 hJ4⟩,k1.oB hdq hJ3,k2.oB hdq hJ3,(k1.mid k2).L5 hJ4,(k1.mid k2).E8 hdq hJ4,fun hne hv=>?_⟩
  generalize ep (aV (ak p)) (aS (ak p)) s j=u at*
  obtain⟨m1,m2,_⟩:=qJ (show u.1<u.2 by grind)
  rw[kU]
  have:=hdq.fG.root m1 m2 (qO hdq.tr hdq.p0 (by rw[<-hv];exact jw.symm))
  omega
theorem PY {p q:PP} (hp:iU p) (hq:iU q) (hg:(ak p).1≠0->ck (ak p)) (hd:(ak q).1≠0->ck (ak q)) {i:Nat} (hi:i<(pU cj p).length):uv p (bN (pU cj p) i) q:=by
 rw[u9 hg]at hi ⊢
 by_cases h0:(ak p).1=0
 ·rw[show dO cj p=[]from if_pos h0]at hi;exact absurd hi (Nat.not_lt_zero _)
 ·have e:dO cj p=jQ cj (aV (ak p)) (aS (ak p)):=if_neg h0
  rw[e]at hi ⊢
  have hm:=CC hi
  obtain⟨a,b⟩:=EH hm
  obtain⟨u,v⟩:=Ik (hg h0) hm
  obtain⟨j,j1,j2⟩:=a.dz
  obtain⟨k,k1,k2⟩:=b.dz
  have a2:=j2.zT (max j k-j)
  have b2:=k2.zT (max j k-k)
  rw[show j+(max j k-j)=max j k by omega]at a2
  rw[show k+(max j k-k)=max j k by omega]at b2
  exact Y3 hp hq hg hd a2 b2 (Nat.max_le.2 ⟨j1,k1⟩) (by grind) (by grind)
end Go.Am.B
namespace Go.Am
def iL:List Rat->PP
 |[]=>fJ
 |a::l=>bP (ga a) (iL l)
theorem rI {a t:Rat} {l:List Rat}:aq (iL (a::l)) t=(t-a)*aq (iL l) t:=by
 show aq (bP (ga a) (iL l)) t=_
 rw[bQ,kz]
theorem zX {t:Rat}:∀{l:List Rat},aq (iL l) t=0↔t∈l
 |[]=>by
  rw[show iL []=fJ from rfl,gH]
  exact⟨fun h=>absurd h (by decide),fun h=>by cases h⟩
 |a::l=>by
  rw[rI,List.mem_cons,<-zX (l:=l),Rat.mul_eq_zero]
  constructor
  ·rintro(h|h)
   ·exact .inl (by grind)
   ·exact .inr h
  ·rintro(h|h)
   ·exact .inl (by grind)
   ·exact .inr h
def lz (l:List Rat) (g:PP):Prop:=∃k:Rat,k≠0/\∀t,aq g t=k*aq (iL l) t
theorem E7 {a:Rat} {u v:PP} (h:∀t,(t-a)*aq u t=(t-a)*aq v t) (t:Rat):aq u t=aq v t:=
 vH (g:=ga a) (show 0<2 by decide) AR (fun t=>by rw[kz];exact h t) t
theorem lz.dv:∀{l:List Rat} {c g:PP},lz l c->Dv g c->∃l',lz l' g/\∀a,a∈l'->a∈l
 |[],c,g,⟨k,k0,hk⟩,⟨w,hw⟩=>by
  have e:∀t,aq g t*aq w t=k:=fun t=>by rw[<-hw,hk,show iL []=fJ from rfl,gH,Rat.mul_one]
  have hk1:k⁻¹*k=1:=Rat.inv_mul_cancel _ k0
  obtain⟨z,hz⟩:=IY (FG (a:=b9 g) (w:=eM k⁻¹ w) eZ fun t=>by rw[dP,dZ];have:=e t;grind)
  have hz:∀t,aq g t=z:=fun t=>by rw[<-dP,hz]
  refine⟨[],⟨z,fun h0=>?_,fun t=>by rw[hz,show iL []=fJ from rfl,gH,Rat.mul_one]⟩,fun a h=>h⟩
  have:=e 0
  rw[hz,h0,Rat.zero_mul]at this
  exact k0 this.symm
 |a::l,c,g,⟨k,k0,hk⟩,⟨w,hw⟩=>by
  have e:∀t,aq g t*aq w t=k*((t-a)*aq (iL l) t):=fun t=>by rw[<-hw,hk,rI]
  have hc:lz l (eM k (iL l)):=⟨k,k0,fun t=>dZ⟩
  by_cases h0:aq g a=0
  ·obtain⟨g1,h1⟩:=wW h0
   obtain⟨l',⟨z,z0,hz⟩,hl⟩:=lz.dv (g:=g1) hc ⟨w,fun t=>(E7 (a:=a) (u:=eM k (iL l)) (v:=bP g1 w) (fun t=>by
    have:=e t
    rw[h1,kz]at this
    rw[dZ,bQ]
    grind) t).trans bQ⟩
   refine⟨a::l',⟨z,z0,fun t=>by rw[h1,kz,rI,hz];grind⟩,fun b hb=>?_⟩
   rcases List.mem_cons.1 hb with rfl|hb
   ·exact List.mem_cons_self
   ·exact List.mem_cons_of_mem _ (hl b hb)
  ·have hwa:aq w a=0:=by
    have:=e a
    rw[show a-a=0 by grind,Rat.zero_mul,Rat.mul_zero]at this
    exact(Rat.mul_eq_zero.1 this).resolve_left h0
   obtain⟨w1,h1⟩:=wW hwa
   obtain⟨l',hs,hl⟩:=lz.dv (g:=g) hc ⟨w1,fun t=>(E7 (a:=a) (u:=eM k (iL l)) (v:=bP g w1) (fun t=>by
    have:=e t
    rw[h1,kz]at this
    rw[dZ,bQ]
    grind) t).trans bQ⟩
   exact⟨l',hs,fun b hb=>List.mem_cons_of_mem _ (hl b hb)⟩
theorem IM {x y:Rat} (hxy:x<y):∀{l:List Rat},(∀a,a∈l->¬(x<a/\a<y))->aq (iL l) x≠0->aq (iL l) y≠0->eF (aq (iL l) x) (aq (iL l) y)
 |[],_,_,_=>by rw[show iL []=fJ from rfl,gH,gH];exact .inl ⟨by decide,by decide⟩
 |a::l,h,hx,hy=>by
  rw[rI]at hx hy
  rw[rI,rI]
  have ha:=h a List.mem_cons_self
  have h1:x-a≠0:=fun h0=>hx (by rw[h0,Rat.zero_mul])
  have h2:y-a≠0:=fun h0=>hy (by rw[h0,Rat.zero_mul])
  refine eF.mul ?_ (IM hxy (fun b hb=>h b (List.mem_cons_of_mem _ hb)) (fun h0=>hx (by rw[h0,Rat.mul_zero])) fun h0=>hy (by rw[h0,Rat.mul_zero]))
  unfold eF
  grind
theorem um {g c:PP} (h:Dv g c) {a:Rat} (ha:aq g a=0):aq c a=0:=by
 obtain⟨w,hw⟩:=h
 rw[hw,ha,Rat.zero_mul]
theorem CG {c:PP} (tc:Trim c) (c0:0<c.1):Dv (aW c) c:=by
 obtain⟨G,e,_,_,h,_⟩:=ng tc c0
 exact⟨G,fun t=>by rw[h,Rat.mul_comm]⟩
theorem FC {g:PP} {s q:Nat} (h:kn g s q) {l:List Rat} (hs:lz l g) {x y:Rat} (hxy:x<y):bt g x y≠0->∃a,x<a/\a<y/\aq g a=0:=by
 obtain⟨r,hr⟩:=FR hxy
 have hd:=CG h.tr h.p0
 obtain⟨l',⟨k,k0,hk⟩,hl⟩:=hs.dv hd
 refine Eo (P:=fun x y=>bt g x y≠0->∃a,x<a/\a<y/\aq g a=0) (E:=mQ s q r) (X:=-(T2 r)) (Y:=T2 r) (fun x y h1 h2 h3 h4 hb=>?_) (fun x m y _ _ h1 h2 p1 p2 hb=>?_) hr.1 hr.2.1 hxy
 ·rw[od h3]at hb
  rcases h.near ⟨h1,h2,h3⟩ h4 with⟨e,n,_⟩|⟨e,n,ns,_⟩
  ·rw[if_neg n]at hb;omega
  ·have ny:aq (aW g) y≠0:=fun h0=>by rw[if_pos h0]at hb;omega
   refine Classical.byContradiction fun hno=>ns ?_
   rw[hk]at n
   rw[hk]at ny
   rw[hk,hk]
   refine(eF.self k0).mul (IM h3 (fun a ha hin=>hno ⟨a,hin.1,hin.2,um hd ?_⟩) (fun h0=>n (by rw[h0,Rat.mul_zero])) fun h0=>ny (by rw[h0,Rat.mul_zero]))
   rw[hk,zX.2 ha,Rat.mul_zero]
 ·by_cases b1:bt g x m=0
  ·by_cases hm:aq (aW g) m=0
   ·exact⟨m,h1,h2,um hd hm⟩
   ·rw[oI h1 h2,b1,if_neg hm]at hb
    obtain⟨a,a1,a2,a3⟩:=p2 fun h0=>hb (by rw[h0];rfl)
    exact⟨a,by grind,a2,a3⟩
  ·obtain⟨a,a1,a2,a3⟩:=p1 b1
   exact⟨a,a1,by grind,a3⟩
theorem xb {g:PP} {s q:Nat} (h:kn g s q) {x a y:Rat} (h1:x<a) (h2:a<y) (ha:aq g a=0):1<=bt g x y:=h.root h1 h2 (qO h.tr h.p0 ha)
theorem By {g:PP} {s q:Nat} (h:kn g s q) {x a b y:Rat} (hb:bt g x y=1) (h1:x<a) (h2:a<y) (h3:x<b) (h4:b<y) (ha:aq g a=0) (hb2:aq g b=0):a=b:=by
 have key:∀{a b:Rat},x<a->a<y->x<b->b<y->aq g a=0->aq g b=0->¬a<b:=fun {a b} h1 h2 h3 h4 ha hb2 hab=>by
  have:=xb h hab h4 hb2
  have nn:=h.oz x a
  rw[oI h1 h2,if_pos (qO h.tr h.p0 ha)]at hb
  omega
 have k1:=key h1 h2 h3 h4 ha hb2
 have k2:=key h3 h4 h1 h2 hb2 ha
 grind
def Od (a:Rat) (n:Nat) (g:PP):Prop:=∃w:PP,(∀t,aq g t=(t-a)^n*aq w t)/\aq w a≠0
theorem Od.zero {a:Rat} {g:PP} (h:Od a 0 g):aq g a≠0:=by
 obtain⟨w,h1,h2⟩:=h
 rw[h1,Rat.pow_zero,Rat.one_mul];exact h2
theorem Od.pos {a:Rat} {n:Nat} {g:PP} (h:Od a (n+1) g):aq g a=0:=by
 obtain⟨w,h1,_⟩:=h
 rw[h1,Rat.pow_succ,show a-a=0 by grind,Rat.mul_zero,Rat.zero_mul]
theorem nN {a t:Rat} (n:Nat):aq (fz (ga a) n) t=(t-a)^n:=by rw[og,kz]
theorem Q9 {a:Rat} {n:Nat} {u v:PP} (h:∀t,(t-a)^n*aq u t=(t-a)^n*aq v t) (t:Rat):aq u t=aq v t:=
 Ah (d:=ga a) (show 0<2 by decide) AR n (fun t=>by rw[kz];exact h t) t
theorem Od.gcd {a:Rat} {n:Nat} {c:PP} (tc:Trim c) (c0:0<c.1) (h:Od a (n+1) c):Od a n (bL c (bh c)):=by
 obtain⟨w,h1,h2⟩:=h
 obtain⟨⟨u,hu⟩,⟨v,hv⟩⟩:=l9 tc (dS (a:=c))
 -- the derivative
 have e2:∀t,aq (bh c) t=(t-a)^n*(((n+1:Nat):Int)*aq w t+(t-a)*cV w t):=fun t=>by
  have hp:=vu (d:=ga a) (t:=t) (n+1)
  have e3:cV c t=cV (fz (ga a) (n+1)) t*aq w t+aq (fz (ga a) (n+1)) t*cV w t:=ku (a:=fz (ga a) (n+1)) (b:=w) (c:=c) (fun t=>by rw[nN,h1]) t
  rw[fF,e3,nN]
  have e4:cV (fz (ga a) (n+1)) t=(((n+1:Nat):Int):Rat)*(t-a)^n:=by
   have e5:∀t,aq (bh (fz (ga a) (n+1))) t=aq (eM (((n+1:Nat):Int):Rat) (fz (ga a) n)) t:=E7 (a:=a) fun t=>by
    have hp:=vu (d:=ga a) (t:=t) (n+1)
    rw[kz,Dn]at hp
    rw[fF,dZ,nN,hp,Rat.pow_succ];grind
   have:=e5 t
   rwa [fF,dZ,nN]at this
  rw[e4,Rat.pow_succ];grind
 obtain⟨m,hm⟩:Dv (fz (ga a) n) (bL c (bh c)):=qM ⟨bP (ga a) w,fun t=>by rw[nN,bQ,kz,h1,Rat.pow_succ];grind⟩ ⟨gE (eM (((n+1:Nat):Int):Rat) w) (bP (ga a) (bh w)),fun t=>by rw[nN,e2,iG,dZ,bQ,kz,fF]⟩
 refine⟨m,fun t=>by rw[hm,nN],fun h0=>?_⟩
 have e6:∀t,aq (gE (eM (((n+1:Nat):Int):Rat) w) (bP (ga a) (bh w))) t=aq (bP m v) t:=Q9 (a:=a) (n:=n) fun t=>by
  have:=hv t
  rw[e2,hm,nN]at this
  rw[iG,dZ,bQ,kz,fF,bQ];grind
 have e7:=e6 a
 rw[iG,dZ,bQ,kz,show a-a=0 by grind,Rat.zero_mul,bQ,h0,Rat.zero_mul,Rat.add_zero]at e7
 rcases Rat.mul_eq_zero.1 e7 with h|h
 ·exact nE (D:=((n+1:Nat):Int)) aa h
 ·exact h2 h
def iu (a:Rat):List (Rat×Nat)->List (Rat×Nat)
 |[]=>[(a,1)]
 |p::l=>if p.1<a then p::iu a l else if p.1=a then(p.1,p.2+1)::l else(a,1)::p::l
def nr:List Rat->List (Rat×Nat)
 |[]=>[]
 |a::l=>iu a (nr l)
def lZ:List (Rat×Nat)->PP
 |[]=>fJ
 |p::l=>bP (fz (ga p.1) p.2) (lZ l)
theorem pF {p:Rat×Nat} {l:List (Rat×Nat)} {t:Rat}:aq (lZ (p::l)) t=(t-p.1)^p.2*aq (lZ l) t:=by
 show aq (bP (fz (ga p.1) p.2) (lZ l)) t=_
 rw[bQ,nN]
theorem Mh {a t:Rat}:∀{l:List (Rat×Nat)},aq (lZ (iu a l)) t=(t-a)*aq (lZ l) t
 |[]=>by
  show aq (lZ [(a,1)]) t=_
  rw[pF,show(t-a)^1=t-a by rw[Rat.pow_succ,Rat.pow_zero,Rat.one_mul]]
 |p::l=>by
  unfold iu
  split
  ·rw[pF,Mh (l:=l),pF];grind
  ·split
   ·rename_i h
    rw[pF,pF,<-h]
    show(t-p.1)^(p.2+1)*_=_
    rw[Rat.pow_succ];grind
   ·rw[pF]
    show(t-a)^1*_=_
    rw[show(t-a)^1=t-a by rw[Rat.pow_succ,Rat.pow_zero,Rat.one_mul]]
theorem Pf {t:Rat}:∀{l:List Rat},aq (lZ (nr l)) t=aq (iL l) t
 |[]=>rfl
 |a::l=>by
  show aq (lZ (iu a (nr l))) t=_
  rw[Mh,Pf,rI]
theorem EI {a b:Rat}:∀{l:List (Rat×Nat)},b∈(iu a l).map (·.1)↔b=a\/b∈l.map (·.1)
 |[]=>by simp[iu]
 |p::l=>by
  unfold iu
  split
  ·simp only[List.map_cons,List.mem_cons,EI (l:=l)]
   grind
  ·split
   ·rename_i h
    simp only[List.map_cons,List.mem_cons]
    grind
   ·simp only[List.map_cons,List.mem_cons]
theorem vD {b:Rat}:∀{l:List Rat},b∈(nr l).map (·.1)↔b∈l
 |[]=>Iff.rfl
 |a::l=>by
  show b∈(iu a (nr l)).map (·.1)↔_
  rw[EI,vD,List.mem_cons]
theorem Nm {a:Rat}:∀{l:List (Rat×Nat)},(l.map (·.1)).Pairwise (·<·)->((iu a l).map (·.1)).Pairwise (·<·)
 |[],_=>by simp[iu]
 |p::l,h=>by
  rw[List.map_cons,List.pairwise_cons]at h
  unfold iu
  split
  ·rename_i hp
   rw[List.map_cons,List.pairwise_cons]
   refine⟨fun b hb=>?_,Nm h.2⟩
   rcases EI.1 hb with rfl|hb
   ·exact hp
   ·exact h.1 b hb
  ·split
   ·rw[List.map_cons,List.pairwise_cons];exact h
   ·rename_i h1 h2
    rw[List.map_cons,List.pairwise_cons,List.map_cons,List.pairwise_cons]
    refine⟨fun b hb=>?_,h⟩
    rcases List.mem_cons.1 hb with rfl|hb
    ·show a<p.1;grind
    ·have:=h.1 b hb
     show a<b
     grind
theorem C6:∀{l:List Rat},((nr l).map (·.1)).Pairwise (·<·)
 |[]=>List.Pairwise.nil
 |_::_=>Nm C6
theorem NX {a:Rat}:∀{l:List (Rat×Nat)},(iu a l).length<=l.length+1
 |[]=>aX
 |p::l=>by
  unfold iu
  split
  ·have:=NX (a:=a) (l:=l);simp only[List.length_cons];omega
  ·split
   ·simp
   ·simp
theorem KA:∀{l:List Rat},(nr l).length<=l.length
 |[]=>aX
 |a::l=>by
  have h1:=NX (a:=a) (l:=nr l)
  have h2:=KA (l:=l)
  show(iu a (nr l)).length<=l.length+1
  omega
theorem Mi {a:Rat} {n:Nat}:∀{l:List (Rat×Nat)},(l.map (·.1)).Pairwise (·<·)->(a,n)∈l->Od a n (lZ l)
 |p::l,h,hm=>by
  rw[List.map_cons,List.pairwise_cons]at h
  rcases List.mem_cons.1 hm with e|hm
  ·refine⟨lZ l,fun t=>by rw[pF,<-e],?_⟩
   have:∀{m:List (Rat×Nat)},(∀b,b∈m.map (·.1)->a<b)->aq (lZ m) a≠0:=fun {m}=>by
    induction m with
    |nil=>intro _;rw[show lZ []=fJ from rfl,gH];decide
    |cons q m ih=>
     intro hb
     rw[pF]
     intro h0
     rcases Rat.mul_eq_zero.1 h0 with h0|h0
     ·have h1:a<q.1:=hb q.1 (by simp)
      have:∀k:Nat,(a-q.1)^k≠0:=fun k=>by
       induction k with
       |zero=>rw[Rat.pow_zero];decide
       |succ k ih=>rw[Rat.pow_succ];intro hz;rcases Rat.mul_eq_zero.1 hz with hz|hz;exact ih hz;grind
      exact this _ h0
     ·exact ih (fun b h=>hb b (by rw[List.map_cons];exact List.mem_cons_of_mem _ h)) h0
   exact this fun b hb=>by have:=h.1 b hb;rw[<-e]at this;exact this
  ·obtain⟨w,h1,h2⟩:=Mi h.2 hm
   refine⟨bP (fz (ga p.1) p.2) w,fun t=>by rw[pF,h1,bQ,nN];grind,?_⟩
   rw[bQ,nN]
   have hlt:p.1<a:=h.1 a (List.mem_map.2 ⟨(a,n),hm,rfl⟩)
   have:∀k:Nat,(a-p.1)^k≠0:=fun k=>by
    induction k with
    |zero=>rw[Rat.pow_zero];decide
    |succ k ih=>rw[Rat.pow_succ];intro hz;rcases Rat.mul_eq_zero.1 hz with hz|hz;exact ih hz;grind
   intro h0
   rcases Rat.mul_eq_zero.1 h0 with h0|h0
   ·exact this _ h0
   ·exact h2 h0
end Go.Am
namespace Go.Am.B
open Go Go.Am.N AV af au IntKind Proofs.Tryz
def kr (c:PP) (s:Rat×Rat) (a:Rat):Prop:=(s.1=a/\s.2=a)\/(s.1<a/\a<s.2/\bt c s.1 s.2=1)
def Mt (c:PP):List (Rat×Rat)->List Rat->Prop
 |[],[]=>True
 |s::l,a::m=>kr c s a/\Mt c l m
 |_,_=>False
theorem Mt.app {c:PP}:∀{l l':List (Rat×Rat)} {m m':List Rat},Mt c l m->Mt c l' m'->Mt c (l++l') (m++m')
 |[],_,[],_,_,h=>h
 |_::_,_,_::_,_,⟨h1,h2⟩,h=>⟨h1,Mt.app h2 h⟩
 |[],_,_::_,_,h,_=>h.elim
 |_::_,_,[],_,h,_=>h.elim
theorem Mt.len {c:PP}:∀{l:List (Rat×Rat)} {m:List Rat},Mt c l m->l.length=m.length
 |[],[],_=>rfl
 |_::_,_::_,⟨_,h⟩=>by rw[List.length_cons,List.length_cons,Mt.len h]
 |[],_::_,h=>h.elim
 |_::_,[],h=>h.elim
theorem Mt.at {c:PP}:∀{l:List (Rat×Rat)} {m:List Rat} {i:Nat},Mt c l m->i<l.length->kr c (bN l i) (m.getD i 0)
 |_::_,_::_,0,⟨h,_⟩,_=>h
 |_::l,_::m,i+1,⟨_,h⟩,hi=>Mt.at (l:=l) (m:=m) (i:=i) h (by rw[List.length_cons]at hi;omega)
 |[],_,i,_,hi=>absurd hi (Nat.not_lt_zero i)
 |_::_,[],_,h,_=>h.elim
theorem CB (m:Rat):∀{L:List Rat},L.Pairwise (·<·)->∃A B,L=A++((if m∈L then [m]else [])++B)/\(∀a,a∈A->a<m)/\∀b,b∈B->m<b
 |[],_=>⟨[],[],rfl,(fun _ h=>by cases h),(fun _ h=>by cases h)⟩
 |a::l,h=>by
  rw[List.pairwise_cons]at h
  rcases(show a<m\/a=m\/m<a by grind)with ha|ha|ha
  ·obtain⟨A,B,e,h1,h2⟩:=CB m h.2
   refine⟨a::A,B,?_,fun b hb=>?_,h2⟩
   ·have:m∈a::l↔m∈l:=by rw[List.mem_cons];exact⟨fun h=>h.resolve_left (by grind),.inr⟩
    rw[List.cons_append]
    congr 1
    by_cases hm:m∈l
    ·rw[if_pos (this.2 hm)];rw[if_pos hm]at e;exact e
    ·rw[if_neg (fun h=>hm (this.1 h))];rw[if_neg hm]at e;exact e
   ·rcases List.mem_cons.1 hb with rfl|hb
    ·exact ha
    ·exact h1 b hb
  ·subst ha
   exact⟨[],l,by rw[if_pos List.mem_cons_self];rfl,(fun _ h=>by cases h),h.1⟩
  ·have hn:¬m∈a::l:=fun hm=>by
    rcases List.mem_cons.1 hm with e|hm
    ·grind
    ·have:=h.1 m hm;grind
   refine⟨[],a::l,by rw[if_neg hn];rfl,(fun _ h=>by cases h),fun b hb=>?_⟩
   rcases List.mem_cons.1 hb with rfl|hb
   ·exact ha
   ·have:=h.1 b hb;grind
theorem Er {c:PP} (hc:ck c) {l:List Rat} (hs:lz l c):∀e {x y:Rat},x<y->j9 (aV c) (aS c) e x y->∀L:List Rat,L.Pairwise (·<·)->(∀a,a∈L->x<a/\a<y/\Go.Am.aq c a=0)->(∀a,x<a->a<y->Go.Am.aq c a=0->a∈L)->Mt c (ej (aV c) (aS c) e x y) L
 |0,_,_,_,h,_,_,_,_=>h.elim
 |e+1,x,y,hxy,h,L,hL,hin,hall=>by
  obtain⟨_,_,h3⟩:=h
  unfold ej
  rw[kU]at h3 ⊢
  by_cases h0:bt c x y=0
  ·rw[if_pos h0]
   cases L with
   |nil=>exact trivial
   |cons a L=>
    obtain⟨a1,a2,a3⟩:=hin a List.mem_cons_self
    have:=xb hc.fG a1 a2 a3
    omega
  ·rw[if_neg h0]
   by_cases h1:bt c x y=1
   ·rw[if_pos h1]
    have e1:gj x y=x:=if_neg (by grind)
    have e2:fQ x y=y:=by unfold fQ;split<;>grind
    rw[e1,e2]
    obtain⟨a,a1,a2,a3⟩:=FC hc.fG hs hxy h0
    have ha:=hall a a1 a2 a3
    have one:∀b,b∈L->b=a:=fun b hb=>by
     obtain⟨b1,b2,b3⟩:=hin b hb
     exact By hc.fG h1 b1 b2 a1 a2 b3 a3
    match L,hL,one,ha with
    |[],_,_,ha=>cases ha
    |[b],_,one,_=>exact⟨.inr (by rw[one b List.mem_cons_self];exact⟨a1,a2,h1⟩),trivial⟩
    |b::b'::L,hL,one,_=>
     exfalso
     rw[List.pairwise_cons]at hL
     have:=hL.1 b' List.mem_cons_self
     rw[one b List.mem_cons_self,one b' (List.mem_cons_of_mem _ List.mem_cons_self)]at this
     grind
   ·obtain⟨_,a,b⟩:=h3 h0 h1
    obtain⟨m1,m2,_⟩:=qJ hxy
    have e2:cC (aS c 0) (bE x y)=Go.Am.aq (aW c) (bE x y):=jw
    rw[if_neg h1]
    obtain⟨A,B,eL,hA,hB⟩:=CB (bE x y) hL
    have hmem:bE x y∈L↔cC (aS c 0) (bE x y)=0:=by
     rw[e2]
     exact⟨fun h=>qO hc.tr hc.p0 (hin _ h).2.2,fun h=>hall _ m1 m2 (um (CG hc.tr hc.p0) h)⟩
    have hL':=eL▸hL
    obtain⟨pA,pR,_⟩:=List.pairwise_append.1 hL'
    obtain⟨_,pB,_⟩:=List.pairwise_append.1 pR
    have DY:∀z,z∈A->z∈L:=fun z hz=>by rw[eL];exact List.mem_append_left _ hz
    have inB:∀z,z∈B->z∈L:=fun z hz=>by rw[eL];exact List.mem_append_right _ (List.mem_append_right _ hz)
    have inM:∀z,z∈(if bE x y∈L then [bE x y]else [])->z=bE x y:=fun z hz=>by
     split at hz
     ·exact List.mem_singleton.1 hz
     ·cases hz
    have split3:∀z,z∈L->z∈A\/z=bE x y\/z∈B:=fun z hz=>by
     rw[eL]at hz
     rcases List.mem_append.1 hz with h|h
     ·exact .inl h
     ·rcases List.mem_append.1 h with h|h
      ·exact .inr (.inl (inM z h))
      ·exact .inr (.inr h)
    have i1:=Er hc hs e m1 a A pA (fun z hz=>⟨(hin z (DY z hz)).1,hA z hz,(hin z (DY z hz)).2.2⟩) fun z z1 z2 z3=>by
     rcases split3 z (hall z z1 (by grind) z3)with h|h|h
     ·exact h
     ·grind
     ·have:=hB z h;grind
    have i2:=Er hc hs e m2 b B pB (fun z hz=>⟨hB z hz,(hin z (inB z hz)).2.1,(hin z (inB z hz)).2.2⟩) fun z z1 z2 z3=>by
     rcases split3 z (hall z (by grind) z2 z3)with h|h|h
     ·have:=hA z h;grind
     ·grind
     ·exact h
    by_cases hm:bE x y∈L
    ·rw[if_pos (hmem.1 hm)]
     rw[if_pos hm]at eL
     rw[eL]
     exact i1.app ⟨.inl ⟨rfl,rfl⟩,i2⟩
    ·rw[if_neg (fun h=>hm (hmem.2 h))]
     rw[if_neg hm]at eL
     rw[eL]
     exact i1.app i2
theorem aeQ {c:PP} (hc:ck c) {l:List Rat} (hs:lz l c) {L:List Rat} (hL:L.Pairwise (·<·)) (hin:∀a,a∈L->0<=a/\a<=1/\Go.Am.aq c a=0) (hall:∀a,0<=a->a<=1->Go.Am.aq c a=0->a∈L):Mt c (jQ cj (aV c) (aS c)) L:=by
 have hD:=nD
 have lk:=zc hc cj 0 0 1 aa aa jJ.zero
 have h01:(0:Rat)<1:=by decide
 obtain⟨A,B,eL,hA,hB⟩:=CB 0 hL
 have root:∀z:Rat,cC (aS c 0) z=0↔Go.Am.aq c z=0:=fun z=>by
  rw[show cC (aS c 0) z=Go.Am.aq (aW c) z from jw]
  exact⟨fun h=>um (CG hc.tr hc.p0) h,fun h=>qO hc.tr hc.p0 h⟩
 have hm0:(0:Rat)∈L↔cC (aS c 0) 0=0:=by rw[root];exact⟨fun h=>(hin _ h).2.2,fun h=>hall _ Rat.le_refl (by grind) h⟩
 have hm1:(1:Rat)∈L↔cC (aS c 0) 1=0:=by rw[root];exact⟨fun h=>(hin _ h).2.2,fun h=>hall _ (by grind) Rat.le_refl h⟩
 have eA:A=[]:=by
  cases A with
  |nil=>rfl
  |cons a A=>
   have h1:=hA a List.mem_cons_self
   have h2:=hin a (by rw[eL];exact List.mem_append_left _ List.mem_cons_self)
   exfalso;grind
 subst eA
 rw[List.nil_append]at eL
 have hL':=eL▸hL
 obtain⟨_,pB,_⟩:=List.pairwise_append.1 hL'
 have inB:∀z,z∈B->z∈L:=fun z hz=>by rw[eL];exact List.mem_append_right _ hz
 have inB2:∀z,z∈L->0<z->z∈B:=fun z hz h0=>by
  rw[eL]at hz
  rcases List.mem_append.1 hz with h|h
  ·split at h
   ·rw[List.mem_singleton]at h;grind
   ·cases h
  ·exact h
 obtain⟨A1,B1,eB,hA1,hB1⟩:=CB 1 pB
 have eB1:B1=[]:=by
  cases B1 with
  |nil=>rfl
  |cons b B1=>
   have h1:=hB1 b List.mem_cons_self
   have h2:=hin b (inB b (by rw[eB];exact List.mem_append_right _ (List.mem_append_right _ List.mem_cons_self)))
   exfalso;grind
 subst eB1
 rw[List.append_nil]at eB
 obtain⟨pA1,_,_⟩:=List.pairwise_append.1 (eB▸pB)
 have inA1:∀z,z∈A1->z∈B:=fun z hz=>by rw[eB];exact List.mem_append_left _ hz
 have h1B:(1:Rat)∈B↔(1:Rat)∈L:=⟨fun h=>inB _ h,fun h=>inB2 _ h h01⟩
 have mid:=Er hc hs cj h01 lk A1 pA1 (fun z hz=>⟨hB z (inA1 z hz),hA1 z hz,(hin z (inB z (inA1 z hz))).2.2⟩) fun z z1 z2 z3=>by
  have hz:=inB2 z (hall z (by grind) (by grind) z3) z1
  rw[eB]at hz
  rcases List.mem_append.1 hz with h|h
  ·exact h
  ·split at h
   ·rw[List.mem_singleton]at h;grind
   ·cases h
 rw[eL]
 unfold jQ
 rw[List.append_assoc]
 refine Mt.app ?_ ?_
 ·by_cases h:(0:Rat)∈L
  ·rw[if_pos h,if_pos (hm0.1 h)];exact⟨.inl ⟨rfl,rfl⟩,trivial⟩
  ·rw[if_neg h,if_neg fun h2=>h (hm0.2 h2)];exact trivial
 ·rw[eB]
  refine Mt.app mid ?_
  by_cases h:(1:Rat)∈L
  ·rw[if_pos (h1B.2 h),if_pos (hm1.1 h)];exact⟨.inl ⟨rfl,rfl⟩,trivial⟩
  ·rw[if_neg fun h2=>h (h1B.1 h2),if_neg fun h2=>h (hm1.2 h2)];exact trivial
theorem Wx {c g:PP} (hc:ck c) (hg:ck g) {l:List Rat} (hs:lz l c) (hd:Dv g c) {s:Rat×Rat} {a:Rat} (h:kr c s a) (ha:Go.Am.aq c a=0):fD g s.1 s.2=true↔Go.Am.aq g a=0:=by
 rcases h with⟨h1,h2⟩|⟨h1,h2,h3⟩
 ·unfold fD
  rw[if_pos (h1.trans h2.symm),decide_eq_true_iff,h1]
  exact⟨fun h=>by rw[<-h];exact jw.symm,fun h=>by rw[<-h];exact jw⟩
 ·rw[zI (by grind)]
  constructor
  ·intro hb
   obtain⟨l',hl',_⟩:=hs.dv hd
   obtain⟨b,b1,b2,b3⟩:=FC hg.fG hl' (by grind) hb
   rw[<-By hc.fG h3 b1 b2 h1 h2 (um hd b3) ha];exact b3
  ·intro h0
   have:=xb hg.fG h1 h2 h0
   omega
theorem JV {c:PP} (hc:ck c):∀j,Dv (gi c j) c
 |0=>.refl c
 |j+1=>(L9 hc j).trans (JV hc j)
theorem PA {c:PP} (hc:ck c) {a:Rat} {n:Nat} (h:Od a n c):∀j,j<=n->Od a (n-j) (gi c j)
 |0,_=>h
 |j+1,hj=>by
  have ih:=PA hc h j aa
  rw[show n-j=n-(j+1)+1 by omega]at ih
  exact ih.gcd (ou hc j).tr (ou hc j).p0
theorem Y9 {c:PP} (hc:ck c) {l:List Rat} (hs:lz l c) {s:Rat×Rat} {a:Rat} {n:Nat} (h:kr c s a) (hn:1<=n) (ho:Od a n c):kY c s.1 s.2 c.1 0=n:=by
 have ha:Go.Am.aq c a=0:=by
  obtain⟨m,rfl⟩:∃m,n=m+1:=⟨n-1,aa⟩
  exact ho.pos
 obtain⟨_,j2,j3⟩:=Fq hc (x:=s.1) (y:=s.2) c.1 0 aX
 generalize kY c s.1 s.2 c.1 0=J at*
 have key:∀i,i<=n->(fD (gi c i) s.1 s.2=true↔i<n):=fun i hi=>by
  rw[Wx hc (ou hc i) hs (JV hc i) h ha]
  have hod:=PA hc ho i hi
  constructor
  ·intro h0
   refine Decidable.byContradiction fun hni=>?_
   rw[show n-i=0 by omega]at hod
   exact hod.zero h0
  ·intro h0
   rw[show n-i=n-i-1+1 by omega]at hod
   exact hod.pos
 rcases Nat.lt_trichotomy J n with h1|h1|h1
 ·have:=(key J aa).2 h1
  exact absurd ⟨vZ (ou hc J) this,this⟩ j3
 ·exact h1
 ·have:=(key n aX).1 (j2 n (Nat.zero_le _) h1)
  omega
theorem kr.half {c:PP} (hc:ck c) {l:List Rat} (hs:lz l c) {s:Rat×Rat} {a:Rat} (h:kr c s a) (ha:Go.Am.aq c a=0) (hlt:s.1<s.2):kr c (iB (aV c) (aS c) s) a:=by
 rcases h with⟨h1,h2⟩|⟨h1,h2,h3⟩
 ·exfalso;grind
 have hI:oN c s s:=⟨Rat.le_refl,Rat.le_refl,fun _=>h3⟩
 have hh:=(hI.half hc hlt).2.2
 obtain⟨m1,m2,_⟩:=qJ hlt
 have e2:cC (aS c 0) (bE s.1 s.2)=Go.Am.aq (aW c) (bE s.1 s.2):=jw
 unfold iB at hh ⊢
 split at hh
 ·rename_i hr
  rw[if_pos hr]
  rw[e2]at hr
  have:=By hc.fG h3 m1 m2 h1 h2 (um (CG hc.tr hc.p0) hr) ha
  exact .inl ⟨this,this⟩
 ·rename_i hr
  rw[if_neg hr]
  rw[e2]at hr
  have hma:bE s.1 s.2≠a:=fun h0=>hr (by rw[h0];exact qO hc.tr hc.p0 ha)
  split at hh
  ·rename_i hb
   rw[if_pos hb]
   rw[kU]at hb
   obtain⟨b,b1,b2,b3⟩:=FC hc.fG hs m1 aa
   have:=By hc.fG h3 b1 (by grind) h1 h2 b3 ha
   exact .inr ⟨h1,by rw[<-this];exact b2,hb⟩
  ·rename_i hb
   rw[if_neg hb]
   rw[kU]at hb
   have hlt2:bE s.1 s.2<a:=by
    refine Decidable.byContradiction fun hn=>hb ?_
    have k1:=xb hc.fG h1 (show a<bE s.1 s.2 by grind) ha
    have k2:=NW hc (x:=s.1) (y:=s.2) (x':=s.1) (y':=bE s.1 s.2) Rat.le_refl (by grind)
    omega
   exact .inr ⟨hlt2,h2,hh m2⟩
theorem kr.rf {c:PP} (hc:ck c) {l:List Rat} (hs:lz l c) {a w:Rat} (ha:Go.Am.aq c a=0) (hw:0<=w):∀(f:Nat) {s:Rat×Rat},kr c s a->kr c (oE (aV c) (aS c) w f s) a
 |0,_,h=>h
 |f+1,s,h=>by
  unfold oE
  split
  ·exact kr.rf hc hs ha hw f (h.half hc hs ha (by grind))
  ·exact h
theorem kr.fits {c:PP} {s:Rat×Rat} {a:Rat} (h:kr c s a) (ha:Go.Am.aq c a=0):kH c s=true:=by
 unfold kH
 rcases h with⟨h1,h2⟩|⟨h1,h2,h3⟩
 ·rw[if_pos (h1.trans h2.symm),vE.2 (by grind),Bool.true_and,h1]
  exact decide_eq_true (by rw[<-ha];exact jw)
 ·rw[if_neg (by grind),vE.2 (by grind),Bool.true_and,kU]
  exact decide_eq_true h3
theorem kr.le {c:PP} {s:Rat×Rat} {a:Rat} (h:kr c s a):s.1<=a/\a<=s.2:=by
 rcases h with⟨h1,h2⟩|⟨h1,h2,_⟩<;>exact⟨by grind,by grind⟩
theorem aex {p q:PP} {s:Rat×Rat} {a:Rat} (hc:ck (ak p)) (hq:(ak q).1≠0) (h:kr (ak p) s a) (ha:Go.Am.aq (ak p) a=0) (hd:Go.Am.aq (ak q) a=0):jv p s=0/\lY p s q=0:=by
 have hp0:=hc.p0
 have he:jv p s=0:=by unfold jv;rw[if_neg aa,h.fits ha];rfl
 refine⟨he,?_⟩
 have td:Trim (ak q):=mU
 have g1:=wV hc.free.1 td
 have hga:Go.Am.aq (bL (aW (ak p)) (ak q)) a=0:=um (qM (wW (qO hc.tr hc.p0 ha)) (wW hd)) (by rw[kz];grind)
 have hE:fD (bL (aW (ak p)) (ak q)) s.1 s.2=true:=by
  rcases h with⟨h1,h2⟩|⟨h1,h2,h3⟩
  ·unfold fD
   rw[if_pos (h1.trans h2.symm),h1]
   exact decide_eq_true (by rw[<-hga];exact jw)
  ·rw[zI (by grind)]
   have:=xb g1.fG h1 h2 hga
   omega
 have hsi:iR p q s=true:=by
  have:iR p q s=(decide (1<(bL (aW (ak p)) (ak q)).1)&&jL (aV (bL (aW (ak p)) (ak q))) (aS (bL (aW (ak p)) (ak q))) s.1 s.2):=by
   unfold iR
   rw[decide_eq_false hq,Bool.false_or];rfl
  rw[this,EC g1,hE,decide_eq_true (vZ g1 hE)];rfl
 unfold lY
 rw[if_pos he,if_pos hsi]
def jy (z:Nat->Int):Nat->List Rat
 |0=>[]
 |i+1=>dI (z i)::jy z i
def iq (a:Rat):PP:=(2,fun i=>aN (nth [AV.rat (-a) 64,AV.rat (((1:Int):Rat)-a) (max 1 (bU (Int.natAbs 1))+64+1)] (.rat 0 1) (i+0)))
def cq (z:Nat->Int):Nat->PP
 |0=>(1,fun _=>3)
 |i+1=>oK (cq z i) (iq (dI (z i)))
def vq (x a y:Rat):Bool:=decide (x<=a/\a<=y)
def dK (z:Nat->Int) (i:Nat):List (Rat×Nat):=nr (jy z i)
def eV (L:List (Rat×Nat)) (i:Nat):Rat×Nat:=L.getD i (0,0)
def nT (w:Int):Rat:=((1:Int):Rat)/((1+w%60:Int):Rat)
theorem Qd {d:Int}:0<=dI d/\dI d<=1:=by
 obtain⟨p1,p2,p3,p4⟩:=OZ (d:=d)
 have hne:((ig d:Int):Rat)≠0:=nE aa
 have e:dI d*((ig d:Int):Rat)=((d%(ig d+1):Int):Rat):=by
  unfold dI
  rw[Rat.div_def,Rat.mul_assoc,Rat.mul_comm _ ((ig d:Int):Rat),Rat.mul_inv_cancel _ hne,Rat.mul_one]
 have h1:=lQ p1
 have h3:=lQ p3
 have h4:=lQ p4
 rw[<-e]at h3 h4
 have h1:(1:Rat)<=((ig d:Int):Rat):=h1
 have h3:(0:Rat)<=dI d*((ig d:Int):Rat):=h3
 generalize ((ig d:Int):Rat)=M at*
 generalize dI d=x at*
 constructor
 ·refine Decidable.byContradiction fun hn=>?_
  have:=Rat.mul_pos (a:=-x) (b:=M) (by grind) (by grind)
  grind
 ·refine Decidable.byContradiction fun hn=>?_
  have:=Rat.mul_pos (a:=x-1) (b:=M) (by grind) (by grind)
  grind
theorem FP {d:Int}:ua (iq (dI d)):=⟨by show 1<=2;decide,by show 2<=3;decide,afQ.congr fun i hi=>by
 rcases(show i=0\/i=1 by omega)with rfl|rfl<;>rfl⟩
theorem FD {a t:Rat}:iZ (iq a) t=t-a:=by
 show(1-t)*(-a)+t*(((1:Int):Rat)-a)=t-a
 rw[show((1:Int):Rat)=1 from rfl];grind
structure Sg (z:Nat->Int) (i:Nat):Prop where
 len:(cq z i).1=i+1
 bd:Bd (cq z i) (2+200*i)
 pw:∃c:PP,(∀t,Go.Am.aq c t=iZ (cq z i) t)/\Bd c (2+26*i)/\c.1<=1+3*i
 dv:ud i (cq z i)
 ev:∀t,iZ (cq z i) t=3*Go.Am.aq (iL (jy z i)) t
theorem Kf:cW 1 (fun _=>(3:Rat)) 2:=⟨1,by decide,by decide,fun _ _=>bY.int (z:=3) (by decide)⟩
theorem Bg {z:Nat->Int}:∀i,i<=6->Sg z i
 |0,_=>{
  len:=rfl
  bd:=Kf
  pw:=⟨(1,fun _=>3),fun t=>by
   show 0+3*t^0=3
   rw[Rat.pow_zero];decide+kernel,Kf,aX⟩
  dv:=fun _ g tg g0 hd=>ki.one g tg g0 (hd.qT (1/3) (b:=fJ) fun t=>by
   rw[gH]
   show(1:Rat)=1/3*Go.Am.aq (lI (1,fun _=>3)) t
   rw[mq (show 1<=1 by decide)]
   show(1:Rat)=1/3*3
   decide+kernel)
  ev:=fun t=>by
   show(3:Rat)=3*Go.Am.aq fJ t
   rw[gH];decide+kernel}
 |i+1,hi=>by
  have h:=Bg (z:=z) i aa
  have hq:=FP (d:=z i)
  have h1:=h.len
  obtain⟨c,c1,c2,c3⟩:=h.pw
  have hl:(cq z (i+1)).1=i+1+1:=by
   show(cq z i).1-1+(2-1)+1=_
   omega
  exact {
   len:=hl
   bd:=(Nx aa hq h.bd 1 aa).more aa
   pw:=⟨bP c (lI (iq (dI (z i)))),fun t=>by
    rw[bQ,c1,mq hq.lo]
    exact(tW t).symm,(yc c2 hq.pw aa (by show 2<=60;decide)).more aa,by show c.1+2+1<=_;omega⟩
   dv:=h.dv.step aa hq ⟨aX,by decide⟩ (by show(cq z (i+1)).1<=30;omega)
   ev:=fun t=>by
    show iZ (oK (cq z i) (iq (dI (z i)))) t=3*Go.Am.aq (iL (dI (z i)::jy z i)) t
    rw[tW,h.ev,FD,rI];grind}
theorem IX {p:PP} (h1:1<=p.1) (h2:p.1<=41) (hb:Bd p 1300):iU p:=by
 have hW:=dc
 refine⟨h1,h2,fun k i hi=>?_,ke (Cb hb) aa⟩
 obtain⟨D,d1,d2,d3⟩:=hb
 exact((zx d3 k i hi).sz d1 d2).more aa
theorem DZ {z:Nat->Int}:∀{i:Nat} {a:Rat},a∈jy z i->∃d,a=dI d
 |i+1,a,h=>by
  rcases List.mem_cons.1 (show a∈dI (z i)::jy z i from h)with h|h
  ·exact⟨_,h⟩
  ·exact DZ h
theorem Ep {z:Nat->Int} {i:Nat} {a:Rat} (h:a∈jy z i):0<=a/\a<=1:=by
 obtain⟨d,rfl⟩:=DZ h
 exact Qd
theorem JR {z:Nat->Int}:∀i,(jy z i).length=i
 |0=>rfl
 |i+1=>congrArg (·+1) (JR i)
theorem yW {p:PP} (h:1<=p.1) (t:Rat):Go.Am.aq (ak p) t=iZ p t:=by
 rw[<-mq h];exact xR
structure VP (p:PP) (l:List Rat):Prop where
 of:iU p
 ne:(ak p).1≠0
 gd:ck (ak p)
 ev:∀t,Go.Am.aq (ak p) t=3*Go.Am.aq (iL l) t
theorem E3 {z:Nat->Int} {i:Nat} (hi:i<=6):VP (cq z i) (jy z i):=by
 have h:=Bg (z:=z) i hi
 have h1:=h.len
 have ev:∀t,Go.Am.aq (ak (cq z i)) t=3*Go.Am.aq (iL (jy z i)) t:=fun t=>by rw[yW aa,h.ev]
 have n2:Go.Am.aq (iL (jy z i)) 2≠0:=fun h0=>by
  have:=(Ep (zX.1 h0)).2
  exact absurd this (by decide)
 have ne:(ak (cq z i)).1≠0:=fun h0=>by
  have:=ev 2
  rw[iF h0]at this
  rcases Rat.mul_eq_zero.1 this.symm with h|h
  ·exact absurd h (by decide)
  ·exact n2 h
 have hle:(ak (cq z i)).1<=(cq z i).1:=fU
 obtain⟨c,c1,c2,c3⟩:=h.pw
 have hb:Bd (ak (cq z i)) (2+26*i):=(show Bd (b9 c) (2+26*i)from cW.short c2 mJ).z6 (AG eZ mU fun t=>by rw[dP,c1,yW aa])
 refine⟨IX aa aa (h.bd.more aa),ne,?_,ev⟩
 refine((h.dv ⟨2,fun h0=>?_⟩).of_eq (c':=ak (cq z i)) fun t=>by rw[mq aa,yW aa]).gd hi (.inr aa) mU (Nat.pos_of_ne_zero ne) aa (hb.more aa)
 rw[h.ev]at h0
 rcases Rat.mul_eq_zero.1 h0 with h|h
 ·exact absurd h (by decide)
 ·exact n2 h
theorem Tm {d:Int}:iU (iq (dI d))/\(ak (iq (dI d))).1≠0/\ck (ak (iq (dI d)))/\∀t,Go.Am.aq (ak (iq (dI d))) t=t-dI d:=by
 have hq:=FP (d:=d)
 have l2:(iq (dI d)).1=2:=rfl
 have ev:∀t,Go.Am.aq (ak (iq (dI d))) t=t-dI d:=fun t=>by rw[yW hq.lo,FD]
 have ne:(ak (iq (dI d))).1≠0:=fun h0=>by
  have:=ev (dI d+1)
  rw[iF h0]at this
  grind
 have hle:(ak (iq (dI d))).1<=(iq (dI d)).1:=fU
 refine⟨IX hq.lo aa (hq.bd.more (by decide)),ne,?_,ev⟩
 have hb:Bd (ak (iq (dI d))) 13:=(show Bd (b9 (lI (iq (dI d)))) 13 from cW.short hq.pw mJ)
 have hd:=(ud.one.step (show 1<=1 by decide) hq (show 1<=1/\1<=2 by decide) (by show 1-1+(2-1)+1<=30;decide)) ⟨dI d+1,fun h0=>by
  have h0:iZ (oK (1,fun _=>1) (iq (dI d))) (dI d+1)=0:=h0
  rw[tW,FD]at h0
  have h0:(1:Rat)*(dI d+1-dI d)=0:=h0
  grind⟩
 refine(hd.of_eq (c':=ak (iq (dI d))) fun t=>?_).gd (by decide) (.inl (by decide)) mU (Nat.pos_of_ne_zero ne) aa (hb.more aa)
 show Go.Am.aq (lI (oK (1,fun _=>1) (iq (dI d)))) t=_
 rw[mq (by show 1<=1-1+(2-1)+1;decide),tW,yW hq.lo]
 show(1:Rat)*_=_
 rw[Rat.one_mul]
theorem Ku:∀{L:List (Rat×Nat)} {i:Nat},i<L.length->(L.map (·.1)).getD i 0=(eV L i).1
 |_::_,0,_=>rfl
 |_::L,i+1,h=>Ku (L:=L) (i:=i) (by rw[List.length_cons]at h;omega)
 |[],i,h=>absurd h (Nat.not_lt_zero i)
theorem OH:∀{L:List (Rat×Nat)} {i:Nat},i<L.length->eV L i∈L
 |_::_,0,_=>List.mem_cons_self
 |_::L,i+1,h=>List.mem_cons_of_mem _ (OH (L:=L) (i:=i) (by rw[List.length_cons]at h;omega))
 |[],i,h=>absurd h (Nat.not_lt_zero i)
theorem Ip {z:Nat->Int} {n:Nat} (hn:n<=6):(dO cj (cq z n)).length=(dK z n).length/\∀i,i<(dK z n).length->kr (ak (cq z n)) (bN (dO cj (cq z n)) i) (eV (dK z n) i).1/\Go.Am.aq (ak (cq z n)) (eV (dK z n) i).1=0/\(eV (dK z n) i).1∈jy z n/\lJ cj (cq z n) i=(eV (dK z n) i).2:=by
 obtain⟨hof,hne,hc,hev⟩:=E3 (z:=z) hn
 have hg:(ak (cq z n)).1≠0->ck (ak (cq z n)):=fun _=>hc
 have hs:lz (jy z n) (ak (cq z n)):=⟨3,by decide,hev⟩
 have root:∀a,Go.Am.aq (ak (cq z n)) a=0↔a∈jy z n:=fun a=>by
  rw[hev,Rat.mul_eq_zero,<-zX]
  exact⟨fun h=>h.resolve_left (by decide),.inr⟩
 have hm:Mt (ak (cq z n)) (dO cj (cq z n)) ((dK z n).map (·.1)):=by
  rw[show dO cj (cq z n)=jQ cj (aV (ak (cq z n))) (aS (ak (cq z n)))from if_neg hne]
  exact aeQ hc hs C6 (fun a ha=>⟨(Ep (vD.1 ha)).1,(Ep (vD.1 ha)).2,(root a).2 (vD.1 ha)⟩) fun a _ _ ha=>vD.2 ((root a).1 ha)
 have hl:(dO cj (cq z n)).length=(dK z n).length:=by rw[hm.len,List.length_map]
 refine⟨hl,fun i hi=>?_⟩
 have h1:=hm.at (i:=i) aa
 rw[Ku hi]at h1
 have hin:=OH hi
 have hmem:(eV (dK z n) i).1∈jy z n:=vD.1 (List.mem_map.2 ⟨_,hin,rfl⟩)
 have hr:=(root _).2 hmem
 have ho:Od (eV (dK z n) i).1 (eV (dK z n) i).2 (ak (cq z n)):=by
  obtain⟨w,w1,w2⟩:=Mi (l:=dK z n) C6 hin
  refine⟨eM 3 w,fun t=>?_,fun h0=>?_⟩
  ·rw[hev,dZ,<-Pf (l:=jy z n)]
   rw[show Go.Am.aq (lZ (nr (jy z n))) t=_ from w1 t,<-Rat.mul_assoc,Rat.mul_comm 3,Rat.mul_assoc];rfl
  ·rw[dZ]at h0
   rcases Rat.mul_eq_zero.1 h0 with h|h
   ·exact absurd h (by decide)
   ·exact w2 h
 refine⟨h1,hr,hmem,?_⟩
 rw[Vm hg aa]
 unfold FZ
 rw[u9 hg]
 refine Y9 hc hs h1 (Nat.pos_of_ne_zero fun h0=>?_) ho
 rw[h0]at ho
 exact ho.zero hr
theorem SB (w:Int):0<nT w/\1<=nT w*64:=by
 have h1:0<=w%60:=Int.emod_nonneg _ aa
 have h2:w%60<60:=Int.emod_lt_of_pos _ aa
 have hne:((1+w%60:Int):Rat)≠0:=nE aa
 have e:nT w*((1+w%60:Int):Rat)=1:=by unfold nT;rw[Rat.div_mul_cancel hne];rfl
 have g1:=lQ (show(1:Int)<=1+w%60 by omega)
 have g2:=lQ (show(1+w%60:Int)<=60 by omega)
 have g1:(1:Rat)<=((1+w%60:Int):Rat):=g1
 have g2:((1+w%60:Int):Rat)<=60:=g2
 generalize ((1+w%60:Int):Rat)=M at*
 generalize nT w=x at*
 have hx:0<x:=by
  refine Decidable.byContradiction fun hn=>?_
  have:=Rat.mul_nonneg (a:=-x) (b:=M) (by grind) (by grind)
  grind
 refine⟨hx,?_⟩
 have:=Rat.mul_nonneg (a:=x) (b:=60-M) (by grind) (by grind)
 grind
theorem adm {z:Nat->Int} {n i:Nat} (w:Int) (hn:n<=6) (hi:i<(dK z n).length):uW (cq z n) (bN (dO cj (cq z n)) i) (nT w)/\uv (cq z n) (bN (dO cj (cq z n)) i) (iq (eV (dK z n) i).1)/\vq (bN (dO cj (cq z n)) i).1 (eV (dK z n) i).1 (bN (dO cj (cq z n)) i).2=true/\
  kg (cq z n) (bN (dO cj (cq z n)) i) (nT w)=0/\(∀t,vq (nR (cq z n) (bN (dO cj (cq z n)) i) t (nT w)).1.1 (eV (dK z n) i).1 (nR (cq z n) (bN (dO cj (cq z n)) i) t (nT w)).1.2=true)/\jv (cq z n) (bN (dO cj (cq z n)) i)=0/\lY (cq z n) (bN (dO cj (cq z n)) i) (iq (eV (dK z n) i).1)=0:=by
 obtain⟨hof,hne,hc,hev⟩:=E3 (z:=z) hn
 have hg:(ak (cq z n)).1≠0->ck (ak (cq z n)):=fun _=>hc
 have hs:lz (jy z n) (ak (cq z n)):=⟨3,by decide,hev⟩
 obtain⟨hl,hat⟩:=Ip (z:=z) hn
 obtain⟨h1,h2,h3,_⟩:=hat i hi
 obtain⟨d,hd⟩:=DZ h3
 rw[hd]at h1 h2 ⊢
 obtain⟨q1,q2,q3,q4⟩:=Tm (d:=d)
 obtain⟨w0,w1⟩:=SB w
 have hlen:i<(pU cj (cq z n)).length:=by rw[u9 hg];omega
 have r1:=abE (w:=nT w) hof hg hlen fun _=>w1
 have r2:=PY (q:=iq (dI d)) hof q1 hg (fun _=>q3) hlen
 rw[u9 hg]at r1 r2
 have he:kg (cq z n) (bN (dO cj (cq z n)) i) (nT w)=0:=by
  unfold kg
  rw[if_neg (by grind),if_neg hne,h1.fits h2];rfl
 obtain⟨s1,s2⟩:=aex (q:=iq (dI d)) hc q2 h1 h2 (by rw[q4];grind)
 refine⟨r1,r2,decide_eq_true h1.le,he,fun t=>?_,s1,s2⟩
 unfold nR
 rw[if_pos he]
 exact decide_eq_true (h1.rf hc hs h2 (by grind) 200).le
end Go.Am.B
