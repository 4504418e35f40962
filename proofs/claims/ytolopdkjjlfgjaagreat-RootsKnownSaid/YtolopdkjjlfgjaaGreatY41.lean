/- roots.SignAt and ref06.SignAt. -/
import Derived.Test.YtolopdkjjlfgjaaGreatY40
set_option linter.unusedVariables false
noncomputable section
namespace Go.Am.B
open Go Go.Am.N AV af au IntKind Proofs.Tryz
def pG (d:PP) (s:Rat×Rat):Prop:=s.1≠s.2/\0<fS (aV d) (aS d) s.1 s.2
def ur (c d:PP) (s:Rat×Rat) (j:Nat):Prop:=¬pG d (eu (aV c) (aS c) s j)/\∀i,i<j->pG d (eu (aV c) (aS c) s i)
def vC (c d:PP) (s:Rat×Rat):Nat:=Classical.epsilon (ur c d s)
def js (p:PP) (s:Rat×Rat):Int:=if(ak p).1=0 then 3 else if kQ (ak p) s=true then 0 else 1
def nI (p q:PP):PP:=bK (aS (ak p) 0) (ak q)
def iS (p q:PP) (s:Rat×Rat):Bool:=decide ((ak q).1=0)||(decide (1<(nI p q).1)&&jS (aV (nI p q)) (aS (nI p q)) s.1 s.2)
def D3 (p q:PP) (s:Rat×Rat):Rat×Rat:=eu (aV (ak p)) (aS (ak p)) s (vC (ak p) (ak q) s)
def lW (p:PP) (s:Rat×Rat) (q:PP):Int:=if js p s=0 then if iS p q s=true then 0 else bR (cC (ak q) (bE (D3 p q s).1 (D3 p q s).2))else 0
def BN:bG:=nG::(57,yy)::(59,zO)::(104,F9)::(72,yq)::(74,Ay)::(60,rM)::(106,En)::(111,BD)::(66,sn)::gE
abbrev ze:Code:=aJ f49
abbrev rj:List Nat:=[6,7,9,10,12,13]
abbrev uH (n:Nat) (c:Nat->PP) (d:PP) (m:Nat) (e:Nat->PP):List AV:=[.int .i64 0,.int .i64 0,gA n c,aP d,.ptr 0 0 6 0 [],gA m e]
abbrev uL (s:Rat×Rat):aG:=[(0,⟨false,true,6,1,fun _=>eE s.1 s.2 ag⟩)]
theorem adr:bC 49 f49:=bD func49
theorem adf {p q:PP} {s:Rat×Rat} {t:Int}:aK T BN [18,24,35,39,46] 60 rj (before ze [1,1,1,1,1,1,1,1,0]) ⟨bf 0 [aP p,kq (s,t),aP q],[],0⟩=
  let c23:AV:=rat 0 1;let c20:AV:=tuple [];let c19:Prop:=0<1;let c15:Rat:=aN (rat s.fst ag);let c14:Rat:=aN (rat s.snd ag);let c13:AV:=int i64 0;let c10:Nat:=cr (gO p.fst fun i=>aN (rat (p.snd i) ag)) p.fst;let c4:Nat:=cr (gO q.fst fun i=>aN (rat (q.snd i) ag)) q.fst;let c22:Prop:=bg (rat s.snd ag) (rat c14 ag);let c21:Prop:=bg (rat s.fst ag) (rat c15 ag);let c18:Bool:=(↑c4:Int)==0;let c12:Prop:=cY (fun i=>rat (gO q.fst (fun i=>aN (rat (q.snd i) ag)) i) ag) c4 ag;let c11:AV:=az 3 c4 fun i=>rat (gO q.fst (fun i=>aN (rat (q.snd i) ag)) i) ag;let c6:Nat×(Nat->Rat):=(c4,fun i=>aN (rat (gO q.fst (fun i=>aN (rat (q.snd i) ag)) i) ag));let c3:Nat×(Nat->Rat):=(c10,fun i=>aN (rat (gO p.fst (fun i=>aN (rat (p.snd i) ag)) i) ag));let c9:PP:=aS c3 (Int.toNat (0:Int));let c8:AV:=az 1 (aV c3) fun i=>az 3 (aS c3 i).fst fun i_1=>rat ((aS c3 i).snd i_1) ag;let c16:Nat×(Nat->Rat):=(c9.fst,fun i=>aN (rat (c9.snd i) ag));let c5:af (List AV×aG):=leaf ret ([c13,c13,c8,c11,c20,c20],[]);let c2:af (List AV×aG):=aj [c19,c12,jK c6,c19] (leaf normal ([c13,c13,c8,c11,ptr 180224 0 6 0 [],az 1 (aV c6) fun i=>az 3 (aS c6 i).fst fun i_1=>rat ((aS c6 i).snd i_1) ag],[(180224,aC.mk false true 6 1 fun j=>if(j==0)=true then dN (eE s.fst s.snd ag)else agg [c23,c23])]));let c1:PP:=(ct (c16,c6) c4).fst;let c17:Bool:=decide ((↑c1.fst:Int)>1);let c7:Nat×(Nat->Rat):=(c1.fst,fun i=>aN (rat (cS c1.fst c1.snd i) ag));some (aj [cY (fun i=>rat (p.snd i) ag) p.fst ag,iQ (p.fst,fun i=>aN (rat (p.snd i) ag))] (fork ((↑c10:Int)==0) (leaf ret ([c13,int i64 3,c20,c20,c20,c20],[])) (aj [cY (fun i=>rat (gO p.fst (fun i=>aN (rat (p.snd i) ag)) i) ag) c10 ag,jK c3] (aj [c19,∀(i:Nat),i<aV c3->bg (aP (aS c3 i)) (aP (b7 (aP (aS c3 i)))),c21,c22,(0:Nat)<aV c3,aV c3<2^40,jl c15 c14=true->cJ (aV c3) (fun i=>b7 (aP (aS c3 i))) c15/\cJ (aV c3) (fun i=>b7 (aP (aS c3 i))) c14] (fork (!nT (aV c3) (fun i=>b7 (aP (aS c3 i))) (c15,c14)) (leaf ret ([c13,int i64 1,c8,c20,c20,c20],[])) (aj [cY (fun i=>rat (q.snd i) ag) q.fst ag,iQ (q.fst,fun i=>aN (rat (q.snd i) ag))] (aj [(0:Int)<=0/\Int.toNat (0:Int)<aV c3,cY (fun i=>rat (c9.snd i) ag) c9.fst ag,c12,c9.fst<2^30,c4<2^30,Trim c16,Trim c6,oz (c16,c6)] (fork c18 (aj [c18=true] (fork true c5 c2)) (fork c17 (aj [c18=false,c17=true,cY (fun i=>rat (cS c1.fst c1.snd i) ag) c1.fst ag,jK c7,c19,∀(i:Nat),i<aV c7->bg (aP (aS c7 i)) (aP (b7 (aP (aS c7 i)))),c21,c22,(0:Nat)<aV c7,aV c7<2^40,cJ (aV c7) (fun i=>b7 (aP (aS c7 i))) c15,cJ (aV c7) (fun i=>b7 (aP (aS c7 i))) c14] (fork (bif false then true else bif true then jS (aV c7) (fun i=>b7 (aP (aS c7 i))) c15 c14 else false) c5 c2)) (aj [c18=false,c17=false] (fork false c5 c2))))))))))):=ah
theorem adR {n m:Nat} {c e:Nat->PP} {d:PP} {s:Rat×Rat}:aK T BN [57,65] 60 rj [part ze [1,1,1,1,1,1,1,1,0,0,0]] ⟨aH rj (uH n c d m e),uL s,1⟩=
  let c11:AV:=rat s.snd ag;let c10:AV:=rat s.fst ag;let c8:Bool:=!decide (s.fst=s.snd);let c7:Int:=fS m (fun i=>b7 (aP (e i))) s.fst s.snd;let c6:Prop:=ag<2^42;let c4:Prop:=0<1;let c2:List AV:=[int i64 0,int i64 0,az 1 n fun i=>az 3 (c i).fst fun i_1=>rat ((c i).snd i_1) ag,az 3 d.fst fun i=>rat (d.snd i) ag,ptr 0 0 6 0 [],az 1 m fun i=>az 3 (e i).fst fun i_1=>rat ((e i).snd i_1) ag];let c5:Rat×Rat:=(aN c10,aN c11);let c3:af (List AV×aG):=leaf (exit 0) (c2,[(0,aC.mk false true 6 1 fun x=>agg [rat s.fst ag,rat s.snd ag])]);let c9:Rat×Rat:=iH n (fun i=>b7 (aP (c i))) c5;let c1:af (List AV×aG):=aj [c4,∀(i:Nat),i<n->bg (aP (c i)) (aP (b7 (aP (c i)))),bg c10 (rat (aN c10) ag),bg c11 (rat (aN c11) ag),s6 n (fun i=>b7 (aP (c i))) c5,c4] (leaf normal (c2,[(0,aC.mk false true 6 1 fun j=>if(j==0)=true then dN (eE c9.fst c9.snd ag)else eE s.fst s.snd ag)]));some (fork c8 (aj [c4,c4,c6,c6,c8=true,c4,c4,∀(i:Nat),i<m->bg (aP (e i)) (aP (b7 (aP (e i)))),ag<=ag,ag<=ag,(0:Nat)<m,m<2^40,cJ m (fun i=>b7 (aP (e i))) s.fst,cJ m (fun i=>b7 (aP (e i))) s.snd] (fork (bif true then decide (c7>0)else false) c1 c3)) (aj [c4,c4,c6,c6,c8=false] (fork false c1 c3))):=ah
theorem afd {n m:Nat} {c e:Nat->PP} {d:PP} {s:Rat×Rat}:dK T BN [] 60 f49 [part ze [1,1,1,1,1,1,1,1,1]] ⟨aH rj (uH n c d m e),uL s,1⟩=
  let c4:AV:=rat s.fst ag;let c3:AV:=rat s.snd ag;let c2:Nat×(Nat->Rat):=(d.fst,fun i=>aN (rat (d.snd i) ag));let c1:Rat:=bE (aN c4) (aN c3);some (aj [(0:Nat)<1,bg c4 (rat (aN c4) ag),bg c3 (rat (aN c3) ag),Sz c1 ag,cY (fun i=>rat (d.snd i) ag) d.fst ag,ag<=ag,d.fst<2^40,jw c2 c1,ag<2^42] (leaf ret [int i64 (bR (cC c2 c1)),int i64 0])):=ah
def BY (g:PP) (s:Rat×Rat):Prop:=jK g/\v8 g/\aV g<2^30/\cJ (aV g) (aS g) s.1/\cJ (aV g) (aS g) s.2
def Wc (c d:PP) (u:Rat×Rat):Prop:=u.1<=u.2/\(pG d u->s6 (aV c) (aS c) u)/\cJ (aV d) (aS d) u.1/\cJ (aV d) (aS d) u.2/\Sz (bE u.1 u.2) ag/\jw d (bE u.1 u.2)/\(u.1≠u.2->cC d (bE u.1 u.2)=0->0<fS (aV d) (aS d) u.1 u.2)
structure Vr (p q:PP) (s:Rat×Rat):Prop where
 f1:(aS (ak p) 0).1<2^30
 c1:(ak p).1<2^30
 d1:(ak q).1<2^30
 tf:Trim (aS (ak p) 0)
 tc:Trim (ak p)
 td:Trim (ak q)
 gf:oz (aS (ak p) 0,ak q)
 ge:J4 (ak p) (ak q)
 cg:BY (nI p q) s
 ch:BY (bK (ak p) (ak q)) s
 cd:(ak q).1≠0->BY (ak q) s/\jw (ak q) s.1
 e1:(ak q).1≠0->s.1=s.2->iS p q s=true->cC (ak q) s.1=0
 e2:(ak q).1≠0->s.1≠s.2->(iS p q s=true↔1<(bK (ak p) (ak q)).1/\fS (aV (bK (ak p) (ak q))) (aS (bK (ak p) (ak q))) s.1 s.2=1)
 lp:iS p q s=false->ur (ak p) (ak q) s (vC (ak p) (ak q) s)/\∀j,j<=vC (ak p) (ak q) s->Wc (ak p) (ak q) (eu (aV (ak p)) (aS (ak p)) s j)
def uN (p:PP) (s:Rat×Rat) (q:PP):Prop:=iQ p/\iQ q/\((ak p).1≠0->jK (ak p)/\v8 (ak p)/\aV (ak p)<2^30/\(ak p).1<2^40/\nT (aV (ak p)) (aS (ak p)) s=kQ (ak p) s/\(jl s.1 s.2=true->jw (ak p) s.1/\cJ (aV (ak p)) (aS (ak p)) s.1/\cJ (aV (ak p)) (aS (ak p)) s.2)/\(kQ (ak p) s=true->Vr p q s))
theorem Zv:cm P BN:=jg (aM A8 (aM AN (aM MF (aM CA (aM DW (aM vJ (aM Oe (aM Gb (aM vY gV)))))))))
theorem ur.at {c d:PP} {s:Rat×Rat} {J j:Nat} (h:ur c d s J) (hj:j<=J):pG d (eu (aV c) (aS c) s j)↔j<J:=by
 constructor
 ·intro h1
  refine Decidable.byContradiction fun hn=>?_
  have:j=J:=aa
  subst this
  exact h.1 h1
 ·exact h.2 j
theorem aaX {p q:PP} {s:Rat×Rat} {t:Int} (h:uN p s q) (K:Nat):aY P 49 K [aP p,kq (s,t),aP q] [] (aT (.tuple [.int .i64 (lW p s q),.int .i64 (js p s)]) []):=by
 have hW:=de
 obtain⟨ho1,ho2,hall⟩:=h
 obtain⟨J,hJ⟩:∃J,J=vC (ak p) (ak q) s:=⟨_,rfl⟩
 have hrd:∀g:PP,∀i,i<aV g->bg (aP (aS g i)) (aP (b7 (aP (aS g i)))):=fun _ i _=>.refl _
 have rOK:∀{e v:Int},js p s=e->lW p s q=v->∀us:List AV,∀o,nh f49 rj (.tuple [.int .i64 (lW p s q),.int .i64 (js p s)]) (.int .i64 v::.int .i64 e::us,o):=fun {e v} h1 h2 us o=>⟨[.int .i64 v,.int .i64 e],rfl,by rw[h1,h2];exact⟨.refl _,.refl _,trivial⟩⟩
 refine qk (r:=aT (.tuple [.int .i64 (lW p s q),.int .i64 (js p s)]) []) hT Zv hm adr rfl br rfl [1,1,1,1,1,1,1,1,0] (i:=0) (y:=part ze [1,1,1,1,1,1,1,1,0,0,0]) (z:=part ze [1,1,1,1,1,1,1,1,1]) ah ah ah (f1:=[18,24,35,39,46]) (f2:=[57,65]) (f3:=[]) 60 rj 1
  (fun _:Nat=>uH (aV (ak p)) (aS (ak p)) (ak q) (aV (ak q)) (aS (ak q))) (fun j=>uL (eu (aV (ak p)) (aS (ak p)) s j)) (fun j=>((ak p).1≠0/\kQ (ak p) s=true/\iS p q s=false)/\j<=J) (fun j=>((ak p).1≠0/\kQ (ak p) s=true/\iS p q s=false)/\j=J) (fun j=>J-j) (fun _=>⟨⟨_,adf,?_⟩,fun j ⟨⟨g1,g2,g3⟩,hj⟩=>⟨_,adR,?_⟩,fun j ⟨⟨g1,g2,g3⟩,hj⟩=>⟨_,afd,?_⟩⟩) K []
 ·simp only[af.all,aF,Bool.not_eq_true',Bool.not_eq_false',cond_false,cond_true]
  refine⟨⟨mI,ho1⟩,fun hz=>?_,fun hz=>?_⟩
  ·have hz':(ak p).1=0:=by have hz:((ak p).1:Int)=0:=eq_of_beq hz;omega
   have he:js p s=3:=if_pos hz'
   exact rOK he (if_neg (by rw[he];decide)) _ _
  ·have hz':(ak p).1≠0:=fun h0=>beq_eq_false_iff_ne.1 hz (show((ak p).1:Int)=0 by omega)
   obtain⟨k1,k1e,k2,k3,k4,k5,k6⟩:=hall hz'
   refine⟨⟨mI (a:=ak p),k1⟩,⟨aa,hrd _,.refl _,.refl _,Nat.succ_pos _,by show aV (ak p)<_;omega,fun hl=>⟨(k5 hl).2.1,(k5 hl).2.2⟩⟩,fun hf=>?_,fun hf=>?_⟩
   ·have hf:nT (aV (ak p)) (aS (ak p)) s=false:=hf
    rw[k4]at hf
    have he:js p s=1:=by unfold js;rw[if_neg hz',hf];rfl
    exact rOK he (if_neg (by rw[he];decide)) _ _
   ·have hf:nT (aV (ak p)) (aS (ak p)) s=true:=hf
    rw[k4]at hf
    have he:js p s=0:=by unfold js;rw[if_neg hz',hf];rfl
    have L:=k6 hf
    have early:iS p q s=true->∀us o,nh f49 rj (.tuple [.int .i64 (lW p s q),.int .i64 (js p s)]) (.int .i64 0::.int .i64 0::us,o):=fun h us o=>rOK he (by unfold lW;rw[if_pos he,if_pos h]) us o
    have start:iS p q s=false->jK (ak q)->aF [0<1,aR (ak q),jK (ak q),0<1]/\Start [] (fun _:Nat=>uH (aV (ak p)) (aS (ak p)) (ak q) (aV (ak q)) (aS (ak q))) (fun j=>uL (eu (aV (ak p)) (aS (ak p)) s j)) 1 (fun j=>((ak p).1≠0/\kQ (ak p) s=true/\iS p q s=false)/\j<=J) (nh f49 rj (.tuple [.int .i64 (lW p s q),.int .i64 (js p s)])) .normal ([.int .i64 0,.int .i64 0,gA (aV (ak p)) (aS (ak p)),aP (ak q),ptr 180224 0 6 0 [],gA (aV (ak q)) (aS (ak q))],[(180224,aC.mk false true 6 1 fun j=>if(j==0)=true then dN (eE s.fst s.snd ag)else agg [rat 0 1,rat 0 1])]):=fun h hs=>
     ⟨⟨Nat.zero_lt_one,mI,hs,Nat.zero_lt_one⟩,0,⟨⟨hz',hf,h⟩,Nat.zero_le _⟩,[(0,180224)],rfl,rfl,rfl,lE rfl rfl (.inr ⟨rfl,.refl _⟩) trivial⟩
    refine⟨⟨mI,ho2⟩,⟨⟨Int.le_refl _,Nat.succ_pos _⟩,mI,mI (a:=ak q),L.f1,L.d1,L.tf,L.td,L.gf⟩,fun hq=>?_,fun hq=>⟨fun hg=>?_,fun hg=>?_⟩⟩
    ·have hq':(ak q).1=0:=by have hq:((ak q).1:Int)=0:=eq_of_beq hq;omega
     exact⟨hq,fun _=>early (by unfold iS;rw[decide_eq_true hq',Bool.true_or]) _ _,fun h=>Bool.noConfusion h⟩
    ·have hq':(ak q).1≠0:=fun h0=>beq_eq_false_iff_ne.1 hq (show((ak q).1:Int)=0 by omega)
     have hg':1<(nI p q).1:=by have hg:((nI p q).1:Int)>1:=of_decide_eq_true hg;omega
     have ee:iS p q s=jS (aV (nI p q)) (aS (nI p q)) s.1 s.2:=by unfold iS;rw[decide_eq_false hq',Bool.false_or,decide_eq_true hg',Bool.true_and]
     obtain⟨⟨m1,m2,m3,m4,m5⟩,m6⟩:=L.cd hq'
     obtain⟨w1,w2,w3,w4,w5⟩:=L.cg
     exact⟨⟨hq,hg,mI (a:=nI p q),w1,aa,hrd _,.refl _,.refl _,Nat.succ_pos _,by show aV (nI p q)<_;omega,w4,w5⟩,fun hh=>early (ee.trans hh) _ _,fun hh=>start (ee.trans hh) m1⟩
    ·have hq':(ak q).1≠0:=fun h0=>beq_eq_false_iff_ne.1 hq (show((ak q).1:Int)=0 by omega)
     have hg':¬1<(nI p q).1:=by have hg:¬((nI p q).1:Int)>1:=of_decide_eq_false hg;omega
     exact⟨⟨hq,hg⟩,fun h=>Bool.noConfusion h,fun _=>start (by unfold iS;rw[decide_eq_false hq',Bool.false_or,decide_eq_false hg',Bool.false_and]) (L.cd hq').1.1⟩
 ·obtain⟨k1,k1e,k2,k3,k4,k5,k6⟩:=hall g1
  have L:=k6 g2
  obtain⟨l1,l2⟩:=L.lp g3
  rw[<-hJ]at l1 l2
  have hd:(ak q).1≠0:=fun h0=>by unfold iS at g3;rw[decide_eq_true h0,Bool.true_or]at g3;cases g3
  obtain⟨⟨m1,m2,m3,m4,m5⟩,m6⟩:=L.cd hd
  obtain⟨v1,v2,v3,v4,v5,v6,v7⟩:=l2 j hj
  have hat:=l1.at hj
  have next:pG (ak q) (eu (aV (ak p)) (aS (ak p)) s j)->s6 (aV (ak p)) (aS (ak p)) (eu (aV (ak p)) (aS (ak p)) s j)/\((((ak p).1≠0/\kQ (ak p) s=true/\iS p q s=false)/\j+1<=J)/\J-(j+1)<J-j):=fun h=>⟨v2 h,⟨⟨g1,g2,g3⟩,hat.1 h⟩,by have:=hat.1 h;omega⟩
  have stop:¬pG (ak q) (eu (aV (ak p)) (aS (ak p)) s j)->((ak p).1≠0/\kQ (ak p) s=true/\iS p q s=false)/\j=J:=fun h=>⟨⟨g1,g2,g3⟩,by have:¬j<J:=fun h2=>h (hat.2 h2);omega⟩
  have fin:∀b,b=j->fu [] (uH (aV (ak p)) (aS (ak p)) (ak q) (aV (ak q)) (aS (ak q)),uL (eu (aV (ak p)) (aS (ak p)) s j)) (uH (aV (ak p)) (aS (ak p)) (ak q) (aV (ak q)) (aS (ak q))) (uL (eu (aV (ak p)) (aS (ak p)) s b)) 1:=fun b hb=>by
   subst hb;exact⟨[(0,0)],rfl,rfl,rfl,fo trivial⟩
  simp only[af.all,aF,bI,bO,Bool.not_eq_true',Bool.not_eq_false',cond_true]
  refine⟨fun hne=>⟨⟨aa,aa,aa,aa,hne,aa,aa,hrd _,aa,aa,Nat.succ_pos _,by show aV (ak q)<_;omega,v3,v4⟩,fun hb=>?_,fun hb=>?_⟩,fun he=>⟨⟨aa,aa,aa,aa,he⟩,fun h=>Bool.noConfusion h,fun _=>?_⟩⟩
  ·obtain⟨i1,i2,i3⟩:=next ⟨hne,hb⟩
   exact⟨⟨aa,hrd _,.refl _,.refl _,i1,aa⟩,j+1,i2,i3,[(0,0)],rfl,rfl,rfl,fo trivial⟩
  ·exact⟨rfl,j,stop fun h=>hb h.2,fin j rfl⟩
  ·exact⟨rfl,j,stop fun h=>h.1 he,fin j rfl⟩
 ·obtain⟨k1,k1e,k2,k3,k4,k5,k6⟩:=hall g1
  have L:=k6 g2
  obtain⟨l1,l2⟩:=L.lp g3
  rw[<-hJ]at l1 l2
  obtain⟨v1,v2,v3,v4,v5,v6,v7⟩:=l2 j aa
  have he:js p s=0:=by unfold js;rw[if_neg g1,g2];rfl
  have hn:lW p s q=bR (cC (ak q) (bE (eu (aV (ak p)) (aS (ak p)) s j).1 (eu (aV (ak p)) (aS (ak p)) s j).2)):=by
   unfold lW D3
   rw[if_pos he,g3,<-hJ,hj];rfl
  have hd1:=L.d1
  simp only[af.all,aF]
  rw[hn,he]
  exact⟨⟨aa,.refl _,.refl _,v5,mI,aa,aa,v6,aa⟩,.refl _,.refl _,trivial⟩
def Jy:Spec:=e9 (kC (kL ag) (kC GY (kC (kL ag) kN))) (fun a=>.tuple [.int .i64 (lW a.1 a.2.1.1 a.2.2.1),.int .i64 (js a.1 a.2.1.1)]) fun a=>[uN a.1 a.2.1.1 a.2.2.1]
theorem aeD:bF P Jy 49:=fj fun⟨_,⟨_,_⟩,_,_⟩ K hn=>aaX hn K
end Go.Am.B
namespace Go.Am
theorem gr.rest {a b:PP} (h:gr a b) (h0:0<b.1):gr b (mD (a,b)).2:=by
 obtain⟨u,v,h⟩:=h
 refine⟨gL v (bP u (gN a b)),eM (-1) u,fun t=>?_⟩
 have h1:=h t
 have h2:=pW (a:=a) h0 t
 have e:aq (mD (a,b)).2 t=((-1:Int):Rat)*aq (fl a b) t:=qj
 rw[show((-1:Int):Rat)=-1 from rfl]at e
 rw[e,iC,bQ,dU];rw[h2]at h1;grind
theorem Py {a b:PP} (ta:Trim a) (tb:Trim b) (h:gr a b):∀j,j<=fk (a,b)->gr (bZ (a,b) j).1 (bZ (a,b) j).2
 |0,_=>h
 |j+1,hj=>(Py ta tb h j aa).rest (Nat.pos_of_ne_zero ((lS (s:=(a,b)) ta tb).2.2 j aa))
theorem OH {a:PP} (h:a.1<=1):∃k,∀t,aq a t=k:=by
 rcases Nat.eq_zero_or_pos a.1 with h0|h0
 ·exact⟨0,fun t=>iB h0 t⟩
 ·refine⟨a.2 0,fun t=>?_⟩
  show ev a.1 a.2 t=_
  rw[show a.1=1 by omega]
  show 0+a.2 0*t^0=_
  rw[Rat.pow_zero];grind
theorem GF {a w:PP} (ta:Trim a) (h:∀t,aq a t*aq w t=1):a.1<=1:=
 Dv.len (h:=a) (g:=fJ) ⟨w,fun t=>by rw[gM,h]⟩ (by decide) A0 ta
theorem UL {a:PP} {s:Nat} (ta:Trim a) (h:Bd a s) (l1:a.1=1) {t w:Rat} (hw:Ab (aq a t) w):1<=w*T2 s:=by
 obtain⟨D,d1,d2,d3⟩:=h
 have e:aq a t=a.2 0:=by
  show ev a.1 a.2 t=_
  rw[l1]
  show 0+a.2 0*t^0=_
  rw[Rat.pow_zero];grind
 have hne:a.2 0≠0:=by
  rcases ta with h0|h0
  ·omega
  ·rw[l1]at h0;exact h0
 have hl:=(d3 0 aa).low d1 d2 hne
 rw[e]at hw
 obtain⟨w1,w2⟩:=hw
 have hT:=jU s
 have p1:=Rat.mul_nonneg (a:=w-a.2 0) (b:=T2 s) (by grind) (by grind)
 have p2:=Rat.mul_nonneg (a:=w+a.2 0) (b:=T2 s) (by grind) (by grind)
 rcases hl with hl|hl<;>grind
theorem uy {w:Rat} {m n:Nat} (hw:0<=w) (h:m<=n):w*T2 m<=w*T2 n:=Rat.mul_le_mul_of_nonneg_left (jt h) hw
theorem HU {x y z q w:Rat} {Q:Nat} (e:x=q*y+z) (hx:Ab x w) (hy:Ab y w) (hq:Ab q (T2 Q)):Ab (-1*z) (w*T2 (Q+1)):=by
 have h1:=hx.sub (hq.mul hy)
 rw[show x-q*y=z by grind]at h1
 have hw:=hx.pos
 have:=Rat.mul_nonneg (a:=T2 Q-1) (b:=w) (by have:=tP Q;grind) hw
 rw[nJ]
 unfold Ab at*
 constructor<;>grind
theorem KE {a b:PP} {u r B:Nat} (ta:Trim a) (tb:Trim b) (la:a.1<=7) (lb:b.1<a.1) (ha:Bd a u) (hb:Bd b u) (h:gr a b) {t:Rat} (ht:Ab t (T2 r)) (hB:2*(u+1)*729<=B+1):∀i,i<=fk (a,b)->∀w,Ab (aq (bZ (a,b) (fk (a,b)-i)).1 t) w->Ab (aq (bZ (a,b) (fk (a,b)-i)).2 t) w->1<=w*T2 (B+i*(8*B+7*(r+1)+8))
 |0,_=>fun w h1 h2=>by
  have hK:=Nat.le_refl (fk (a,b))
  rw[Nat.sub_zero]at h1 h2
  obtain⟨B',b1,b2,b3,b4,b5⟩:=yx ta tb la lb ha hb (fk (a,b)) hK
  have h3:3^(7-(bZ (a,b) (fk (a,b))).1.1)<=3^6:=sX aa
  have h4:=Nat.mul_le_mul_left (2*(u+1)) h3
  obtain⟨u',v',hc⟩:=Py ta tb h _ hK
  have hz:=(lS (s:=(a,b)) ta tb).2.1
  have hl:=GF (w:=u') (nM (s:=(a,b)) ta tb (fk (a,b))).1 fun t=>by have:=hc t;rw[iB hz]at this;grind
  exact Rat.le_trans (UL (nM (s:=(a,b)) ta tb (fk (a,b))).1 b2 aa h1) (uy h1.pos aa)
 |i+1,hi=>fun w h1 h2=>by
  obtain⟨K,hK⟩:∃K,K=fk (a,b):=⟨_,rfl⟩
  obtain⟨j,hj⟩:∃j,j+1=K-i:=⟨K-i-1,aa⟩
  have ih:=KE ta tb la lb ha hb h ht hB i aa
  rw[<-hK]at ih h1 h2
  rw[<-hj]at ih
  rw[show K-(i+1)=j by omega]at h1 h2
  obtain⟨B',b1,b2,b3,b4,b5⟩:=yx ta tb la lb ha hb j aa
  have h3:3^(7-(bZ (a,b) j).1.1)<=3^6:=sX aa
  have h4:=Nat.mul_le_mul_left (2*(u+1)) h3
  have h0:0<(bZ (a,b) j).2.1:=Nat.pos_of_ne_zero ((lS (s:=(a,b)) ta tb).2.2 j aa)
  have ht2:=(nM (s:=(a,b)) ta tb j).2
  have hB':B'<=B:=aa
  have hih:∀w,Ab (aq (bZ (a,b) j).2 t) w->Ab (-1*aq (fl (bZ (a,b) j).1 (bZ (a,b) j).2) t) w->1<=w*T2 (B+i*(8*B+7*(r+1)+8)):=fun w k1 k2=>by
   refine ih w k1 ?_
   have e:aq (mD (bZ (a,b) j)).2 t=((-1:Int):Rat)*aq (fl (bZ (a,b) j).1 (bZ (a,b) j).2) t:=qj
   show Ab (aq (mD (bZ (a,b) j)).2 t) w
   rw[e];exact k2
  generalize bZ (a,b) j=s at*
  have hr:=(b2.rem b3 h0 ht2).2.1
  have hM:s.1.1-(s.2.1-1)<=7:=aa
  have hm:=Nat.mul_le_mul_right (B'+1) hM
  have hlq:(gN s.1 s.2).1<=7:=Nat.le_trans (show cr _ _<=_ from fY) hM
  have hq:=ER (cW.cf (hr.more (t:=8*B+7) aa)) hlq ht
  have hrr:=HU (pW (a:=s.1) h0 t) h1 h2 hq
  have hw:=h1.pos
  have key:=hih (w*T2 (8*B+7+7*(r+1)+1)) (h2.more (by
   have:=Rat.mul_nonneg (a:=w) (b:=T2 (8*B+7+7*(r+1)+1)-1) hw (by have:=tP (8*B+7+7*(r+1)+1);grind)
   grind)) hrr
  rw[Rat.mul_assoc,<-nw]at key
  rwa [show 8*B+7+7*(r+1)+1+(B+i*(8*B+7*(r+1)+8))=B+(i+1)*(8*B+7*(r+1)+8) by rw[Nat.add_mul i 1,Nat.one_mul];omega]at key
theorem Er {a b:PP} (ta:Trim a) (tb:Trim b) (la:a.1<=7) (lb:b.1<a.1) (ha:Bd a 1601) (hb:Bd b 1601) (h:gr a b) {t w:Rat} (ht:Ab t (T2 7)) (h1:Ab (aq a t) w) (h2:Ab (aq b t) w):1<=w*T2 114450419:=by
 have hk:=(lS (s:=(a,b)) ta tb).1
 have hk:fk (a,b)<=b.1:=hk
 have:=KE (B:=2335715) ta tb la lb ha hb h ht aa (fk (a,b)) aX w
 rw[Nat.sub_self]at this
 exact Rat.le_trans (this h1 h2) (uy h1.pos aa)
theorem Tn {a b:PP} (ta:Trim a) (tb:Trim b) (la:a.1<=7) (lb:b.1<=7) (ha:Bd a 800) (hb:Bd b 800) (h:gr a b) {t w:Rat} (ht:Ab t (T2 7)) (h1:Ab (aq a t) w) (h2:Ab (aq b t) w):1<=w*T2 133136203:=by
 have hw:=h1.pos
 rcases Nat.lt_trichotomy a.1 b.1 with hl|hl|hl
 ·exact Rat.le_trans (Er tb ta lb hl (hb.more (by decide)) (ha.more (by decide)) h.symm ht h2 h1) (uy hw (by decide))
 ·have hb0:0<b.1:=by
   rcases Nat.eq_zero_or_pos b.1 with h0|h0
   ·obtain⟨u,v,e⟩:=h
    have:=e 0
    rw[iB h0,iB (hl.trans h0)]at this
    exact absurd this (by grind)
   ·exact h0
  have hr:=ha.rem hb hb0 tb
  rw[show a.1-(b.1-1)=1 by omega]at hr
  have hlq:(gN a b).1<=7:=Nat.le_trans (show cr _ _<=a.1-(b.1-1)from fY) aa
  have hq:=ER (cW.cf (Bd.more hr.2.1 (show 800+1*(800+1)<=1601 by decide))) hlq ht
  have e:aq (mD (a,b)).2 t=((-1:Int):Rat)*aq (fl a b) t:=qj
  have hrr:=HU (pW (a:=a) hb0 t) h1 h2 hq
  have key:=Er (a:=b) (b:=(mD (a,b)).2) tb (vZ (a:=fl a b) tH (by decide)) lb (o9 hb0 tb) (hb.more (by decide)) (Bd.more hr.1 (show 800+1*(800+1)<=1601 by decide)).neg (h.rest hb0) ht (w:=w*T2 (1601+7*(7+1)+1)) (h2.more (by
   have:=Rat.mul_nonneg (a:=w) (b:=T2 (1601+7*(7+1)+1)-1) hw (by have:=tP (1601+7*(7+1)+1);grind)
   grind)) (by rw[e];exact hrr)
  rw[Rat.mul_assoc,<-nw]at key
  exact Rat.le_trans key (uy hw (by decide))
 ·exact Rat.le_trans (Er ta tb la hl (ha.more (by decide)) (hb.more (by decide)) h ht h1 h2) (uy hw (by decide))
theorem gr.dD {F G F1:PP} (h:gr F (bh F)) (e:∀t,aq F t=aq G t*aq F1 t):gr G (bh G):=by
 obtain⟨u,v,h⟩:=h
 refine⟨gL (bP u F1) (bP v (bh F1)),bP v F1,fun t=>?_⟩
 have h1:=h t
 rw[e,fH,ko e,<-fH,<-fH]at h1
 rw[iC,bQ,bQ,bQ,<-h1];grind
theorem ZD {G:PP} (tG:Trim G) (g0:0<G.1) (h:gr G (bh G)):∃k:Rat,k≠0/\∀t,aq G t=k*aq (aW G) t:=by
 obtain⟨G0,e,_,tG0,h1,_⟩:=nC tG g0
 obtain⟨w,hw⟩:=Es tG g0 tG g0 h (.refl G)
 have hF:=rV tG g0
 have h2:∀t,aq G0 t*aq w t=1:=fun t=>by
  have:=vP (g:=aW G) (a:=bP G0 w) (b:=fJ) hF iz (fun t=>by
   have e2:=hw t
   rw[h1]at e2
   rw[bQ,gM];grind) t
  rwa [bQ,gM]at this
 obtain⟨k,hk⟩:=OH (GF tG0 h2)
 refine⟨k,fun h0=>?_,fun t=>by rw[h1,hk]⟩
 have:=h2 0
 rw[hk,h0,Rat.zero_mul]at this
 exact absurd this (by decide)
theorem eG.mul {a b c d:Rat} (h:eG a b) (h':eG c d):eG (a*c) (b*d):=by
 have pp:∀{x y:Rat},0<x->0<y->0<x*y:=fun h1 h2=>Rat.mul_pos h1 h2
 unfold eG at*
 rcases h with⟨h1,h2⟩|⟨h1,h2⟩<;>rcases h' with⟨h3,h4⟩|⟨h3,h4⟩
 ·exact .inl ⟨pp h1 h3,pp h2 h4⟩
 ·have p1 := pp h1 (show 0 < -c by grind)
  have p2 := pp h2 (show 0 < -d by grind)
  exact .inr ⟨by grind,by grind⟩
 ·have p1 := pp (show 0 < -a by grind) h3
  have p2 := pp (show 0 < -b by grind) h4
  exact .inr ⟨by grind,by grind⟩
 ·have p1 := pp (show 0 < -a by grind) (show 0 < -c by grind)
  have p2 := pp (show 0 < -b by grind) (show 0 < -d by grind)
  exact .inl ⟨by grind,by grind⟩
theorem eG.self {k:Rat} (h:k≠0):eG k k:=by unfold eG;grind
theorem K4 {F G F1:PP} (hF:ck F) (l7:F.1<=7) (e:∀t,aq F t=aq G t*aq F1 t) {x y:Rat} (hr:Rg 7 x y) (hs:¬eG (aq F x) (aq F y)) (hx:aq F x≠0) (hy:aq F y≠0) (hG:eG (aq G x) (aq G y)):
  ∃A:PP,Trim A/\A.1<=7/\Bd A 800/\Dv A F1/\Ab (aq A x) ((y-x)*T2 912):=by
 have d1:Dv (b9 F1) F:=⟨G,fun t=>by rw[e,dO,Rat.mul_comm]⟩
 have hl:=d1.len hF.p0 hF.tr eW
 have p1:0<(b9 F1).1:=by
  rcases Nat.eq_zero_or_pos (b9 F1).1 with h0|h0
  ·exact absurd (by rw[e,<-dO (a:=F1),iB h0,Rat.mul_zero]) hx
  ·exact h0
 have hb:=(hF.dv _ eW p1 d1).1
 have tA:=nZ (eW (a:=F1))
 have back:=fun t=>CC (t:=t) (eW (a:=F1))
 obtain⟨k,hk⟩:∃k,k=(b9 F1).2 ((b9 F1).1-1):=⟨_,rfl⟩
 have hk0:k≠0:=by
  rcases eW (a:=F1)with h|h
  ·omega
  ·rw[hk];exact h
 rw[<-hk]at back
 have lA:(gm (b9 F1)).1<=7:=Nat.le_trans hl l7
 generalize gm (b9 F1)=A at*
 have back:∀t,aq F1 t=k*aq A t:=fun t=>by rw[<-dO,back]
 have ax:aq A x≠0:=fun h0=>hx (by rw[e,back,h0];grind)
 have ay:aq A y≠0:=fun h0=>hy (by rw[e,back,h0];grind)
 have as:¬eG (aq A x) (aq A y):=fun hA=>hs (by rw[e,e,back,back];exact hG.mul ((eG.self hk0).mul hA))
 obtain⟨q,q1,q2⟩:=A6 hr.ab.1 hr.ab.2 A.1 (cW.cf hb)
 have self:Ab (y-x) (y-x):=by have:=hr.2.2;exact⟨by grind,by grind⟩
 refine⟨A,tA,lA,hb,⟨eM k fJ,fun t=>by rw[dU,gM,back];grind⟩,(DY (self.mul (q2.more (jt ?_))) q1 as ax ay).1⟩
 have:=Nat.mul_le_mul_right (7+1) lA
 omega
theorem VY {c d g:PP} (hc:ck c) (hd:ck d) (hg:ck g) (hdv:∀k:PP,Dv k c->Dv k d->Dv k g) {x y:Rat} (hr:Rg 7 x y) (hf:(y-x)*T2 133140000<1) (h1:bt c x y=1) (h2:0<bt d x y) (h3:bt g x y<=0):False:=by
 have hw:0<=y-x:=by have:=hr.2.2;grind
 have le:∀{m:Nat},m<=133140000->(y-x)*T2 m<1:=fun hm=>by have:=uy hw hm;grind
 obtain⟨fc,lc⟩:=hc.free
 obtain⟨fd,ld⟩:=hd.free
 have hfe:mO 1176605 9412848 7<=133140000:=by decide
 have c1:=hc.fG.near hr (le hfe)
 have d1:=hd.fG.near hr (le hfe)
 rw[ot hr.2.2]at h1 h2
 have cF:¬eG (aq (aW c) x) (aq (aW c) y)/\aq (aW c) x≠0/\aq (aW c) y≠0:=by
  rcases c1 with⟨e,n,_⟩|⟨e,n,s,_⟩
  ·rw[if_neg n]at h1;omega
  ·exact⟨s,n,fun h0=>by rw[if_pos h0]at h1;omega⟩
 have cH:¬eG (aq (aW d) x) (aq (aW d) y)/\aq (aW d) x≠0/\aq (aW d) y≠0:=by
  rcases d1 with⟨e,n,_⟩|⟨e,n,s,_⟩
  ·rw[if_neg n]at h2;omega
  ·exact⟨s,n,fun h0=>by rw[if_pos h0]at h2;omega⟩
 obtain⟨F1,H1,e1,e2,cop⟩:=Cm (a:=aW c) (b:=aW d) iz iz fc.p0
 have hdG:=lR (a:=aW c) (b:=aW d) iz iz
 have gG:ck (bK (aW c) (aW d)):=fc.rB (jX iz iz) (mF fc.p0) hdG.1 (ue (a:=(ct (aW c,aW d) (aW d).1).1) (s7 (s:=(aW c,aW d)) fc.p0 _) (mz (s:=(aW c,aW d)) iz iz _).1)
 have up:∀{c:PP},ck c->Dv (aW c) c:=fun hc=>by
  obtain⟨G,e,_,_,h,_⟩:=nC hc.tr hc.p0
  exact⟨G,fun t=>by rw[h,Rat.mul_comm]⟩
 have dg:=hdv _ (hdG.1.trans (up hc)) (hdG.2.trans (up hd))
 have b1:=yA hg.fG gG.fG (yJ hg.tr hg.p0 gG.tr gG.p0 dg) x y
 have b2:=gG.fG.oC x y
 have g1:=gG.fG.near hr (le hfe)
 obtain⟨k,hk,hkt⟩:=ZD gG.tr gG.p0 ((xV hc.tr hc.p0).dD e1)
 generalize bK (aW c) (aW d)=G at*
 have gx:aq (aW G) x≠0:=fun h0=>cF.2.1 (by rw[e1,hkt,h0];grind)
 have gy:aq (aW G) y≠0:=fun h0=>cF.2.2 (by rw[e1,hkt,h0];grind)
 have gS:eG (aq G x) (aq G y):=by
  rw[ot hr.2.2,if_neg gy]at b1 b2
  rcases g1 with⟨e,n,s,_⟩|⟨e,_⟩
  ·rw[hkt,hkt];exact(eG.self hk).mul (s.resolve_left gx)
  ·omega
 obtain⟨A,tA,lA,bA,dA,sA⟩:=K4 fc lc e1 hr cF.1 cF.2.1 cF.2.2 gS
 obtain⟨B,tB,lB,bB,dB,sB⟩:=K4 fd ld e2 hr cH.1 cH.2.1 cH.2.2 gS
 have key:=Tn tA tB lA lB bA bB ((cop.rB dA).symm.rB dB).symm hr.ab.1 sA sB
 rw[Rat.mul_assoc,<-nw]at key
 have:=le (m:=912+133136203) (by decide)
 grind
end Go.Am
namespace Go.Am.B
open Go Go.Am.N AV af au IntKind Proofs.Tryz
theorem Dz.nS {c:PP} (hc:ck c) {j:Nat} {z:Rat} (h:Dz j z) (hj:j<=2147000000):cJ (aV c) (aS c) z:=Gf hc h (nc j).2 (nc j).1 aa
theorem Dz.Gc {c:PP} (hc:ck c) {j:Nat} {z:Rat} (h:Dz j z) (hj:j<=2147000000):jw c z:=by
 have hW:=de
 exact GP hc.bd h (nc j).2 (nc j).1 hc.len aa
theorem Dz.Ma {j:Nat} {z:Rat} (h:Dz j z) (hj:j<=2147000000):Sz z ag:=by
 have hW:=de
 exact(bY.sz (nc j).1 (nc j).2 h).more aa
theorem Dz.chain {c:PP} (hc:ck c) {j:Nat} {s:Rat×Rat} (h1:Dz j s.1) (h2:Dz j s.2) (hj:j<=2147000000):BY c s:=
 ⟨(qY hc).1,(qY hc).2,by have:=wh hc;omega,h1.nS hc hj,h2.nS hc hj⟩
theorem Pc {c:PP} (h:ck c) {x y x' y':Rat} (h1:x<=x') (h2:y'<=y):bt c x' y'<=bt c x y:=by
 have nn:=h.fG.oC
 by_cases hxy:x'<y'
 ·have a:bt c x' y'<=bt c x' y:=by
   by_cases e:y'=y
   ·rw[e];exact Int.le_refl _
   ·rw[pg hxy (show y'<y by grind)]
    have:=nn y' y
    split<;>omega
  have b:bt c x' y<=bt c x y:=by
   by_cases e:x=x'
   ·rw[e];exact Int.le_refl _
   ·rw[pg (show x<x' by grind) (show x'<y by grind)]
    have:=nn x x'
    split<;>omega
  omega
 ·rw[show bt c x' y'=0 from if_pos (by grind)];exact nn x y
theorem yM {c d:PP} (hc:ck c) (td:Trim d):ck (bK c d):=
 hc.rB (jX hc.tr td) (mF hc.p0) (lR hc.tr td).1 (ue (a:=(ct (c,d) d.1).1) (s7 (s:=(c,d)) hc.p0 _) (mz (s:=(c,d)) hc.tr td _).1)
theorem Kj {c:PP} (hc:ck c):Dv (aW c) c:=by
 obtain⟨G,e,_,_,h,_⟩:=nC hc.tr hc.p0
 exact⟨G,fun t=>by rw[h,Rat.mul_comm]⟩
theorem Kl {c d:PP} (hc:ck c) (td:Trim d) (x y:Rat):bt (bK (aW c) d) x y=bt (bK c d) x y:=by
 have fc:=hc.free.1
 have g1:=yM fc td
 have g2:=yM hc td
 have d1:=lR fc.tr td
 have d2:=lR hc.tr td
 have a:=yA g2.fG g1.fG (yJ g2.tr g2.p0 g1.tr g1.p0 (qx (d1.1.trans (Kj hc)) d1.2)) x y
 have k:=yJ hc.tr hc.p0 g2.tr g2.p0 d2.1
 have b:=yA g1.fG g2.fG (Es g1.tr g1.p0 iz (rV g2.tr g2.p0) (xV g2.tr g2.p0) (qx k ((Kj g2).trans d2.2))) x y
 omega
theorem yS {c:PP} {x y:Rat} (hxy:x≠y):fD c x y=true↔bt c x y≠0:=by
 unfold fD
 rw[if_neg hxy,lz,decide_eq_true_iff]
def oX (c:PP) (s u:Rat×Rat):Prop:=s.1<=u.1/\u.2<=s.2/\(u.1<u.2->bt c u.1 u.2=1)
theorem oX.half {c:PP} (hc:ck c) {s u:Rat×Rat} (h:oX c s u) (hu:u.1<u.2):oX c s (iH (aV c) (aS c) u):=by
 obtain⟨h1,h2,h3⟩:=h
 obtain⟨m1,m2,_⟩:=qG hu
 have h3:=h3 hu
 unfold iH
 split
 ·exact⟨by grind,by grind,fun h=>by grind⟩
 ·rename_i hr
  rw[lz]
  split
  ·rename_i hb
   exact⟨h1,by grind,fun _=>hb⟩
  ·rename_i hb
   refine⟨by grind,h2,fun _=>?_⟩
   rw[pg m1 m2,if_neg (fun h0=>hr (by rw[jn];exact h0))]at h3
   have a:=hc.fG.oC u.1 (bE u.1 u.2)
   have b:=hc.fG.oC (bE u.1 u.2) u.2
   show bt c (bE u.1 u.2) u.2=1
   omega
theorem oX.all {c d:PP} (hc:ck c) {s:Rat×Rat} {J:Nat} (h0:oX c s s) (hs:s.1<=s.2) (hz1:Dz J s.1) (hz2:Dz J s.2):∀j,(∀i,i<j->pG d (eu (aV c) (aS c) s i))->oX c s (eu (aV c) (aS c) s j)
 |0,_=>h0
 |j+1,h=>by
  have ih:=oX.all hc h0 hs hz1 hz2 j fun i hi=>h i aa
  have h1:=(h j aa).1
  have h2:=(yI (n:=aV c) (c:=aS c) hs hz1 hz2 j).2.2.1
  exact ih.half hc (by grind)
theorem Ru {P:Nat->Prop} (n:Nat):(∃j,j<=n/\¬P j/\∀i,i<j->P i)\/∀i,i<=n->P i:=by
 induction n with
 |zero=>
  by_cases h:P 0
  ·exact .inr fun i hi=>by rw[Nat.le_zero.1 hi];exact h
  ·exact .inl ⟨0,aX,h,fun i hi=>absurd hi (Nat.not_lt_zero i)⟩
 |succ n ih=>
  rcases ih with⟨j,h1,h2⟩|h
  ·exact .inl ⟨j,aa,h2⟩
  ·by_cases h1:P (n+1)
   ·exact .inr fun i hi=>by
     rcases Nat.lt_or_ge i (n+1)with h2|h2
     ·exact h i aa
     ·rw[show i=n+1 by omega];exact h1
   ·exact .inl ⟨n+1,aX,h1,fun i hi=>h i aa⟩
theorem UI {a:PP} {s:Nat} (h:a.1=0):Bd a s:=⟨1,by decide,Nat.one_le_two_pow,fun i hi=>absurd hi aa⟩
theorem afN {p q:PP} {s:Rat×Rat} {J:Nat} (hp:iQ p) (hq:iQ q) (hg:(ak p).1≠0->ck (ak p)) (hd:(ak q).1≠0->ck (ak q)) (h1:Dz J s.1) (h2:Dz J s.2) (hJ:J<=cj) (b1:-(128:Rat)<=s.1) (b2:s.2<=128):uN p s q:=by
 have hD:=nH
 have hJ2:J<=2147000000:=aa
 refine⟨hp,hq,fun h0=>?_⟩
 have hc:=hg h0
 refine⟨(qY hc).1,(qY hc).2,by have:=wh hc;omega,by have:=hc.len;omega,?_,fun _=>⟨h1.Gc hc hJ2,h1.nS hc hJ2,h2.nS hc hJ2⟩,fun hf=>?_⟩
 ·unfold nT kQ
  rw[decide_eq_decide.2 (uj hc)]
 have hft:=Bool.and_eq_true _ _▸(show(jl s.1 s.2&&(if s.1=s.2 then decide (cC (ak p) s.1=0)else decide (fS (aV (ak p)) (aS (ak p)) s.1 s.2=1)))=true from hf)
 have hle:s.1<=s.2:=uo.1 hft.1
 have hb1:s.1≠s.2->bt (ak p) s.1 s.2=1:=fun hne=>by
  have:=hft.2
  rw[if_neg hne]at this
  rw[<-lz];exact of_decide_eq_true this
 have hW:=de
 have td:Trim (ak q):=mJ
 obtain⟨c,ec⟩:∃c,c=ak p:=⟨_,rfl⟩
 obtain⟨d,ed⟩:∃d,d=ak q:=⟨_,rfl⟩
 have fc:=hc.free.1
 have l7:=hc.free.2
 have g1:=yM fc td
 have g2:=yM hc td
 have bd:Bd (ak q) 806/\(ak q).1<=13:=by
  by_cases hz:(ak q).1=0
  ·exact⟨UI hz,aa⟩
  ·exact⟨(hd hz).bd.more aa,(hd hz).len⟩
 have h13:2*((13+1)*(2*(806+1)*3^(13-1)))+2<=ag:=by rw[hW];decide
 have hE:(ak q).1≠0->iS p q s=fD (bK (aW (ak p)) (ak q)) s.1 s.2:=fun hz=>by
  have:iS p q s=(decide (1<(bK (aW (ak p)) (ak q)).1)&&jS (aV (bK (aW (ak p)) (ak q))) (aS (bK (aW (ak p)) (ak q))) s.1 s.2):=by
   unfold iS
   rw[decide_eq_false hz,Bool.false_or];rfl
  rw[this,DT g1]
  cases hh:fD (bK (aW (ak p)) (ak q)) s.1 s.2 with
  |false=>rw[Bool.and_false]
  |true=>rw[decide_eq_true (uP g1 hh)];rfl
 refine {f1:=(by show(aW (ak p)).1<_;omega),c1:=(by have:=hc.len;omega),d1:=aa,tf:=iz,tc:=hc.tr,td:=td,gf:=uW iz td (by show(aW (ak p)).1<=13;omega) bd.2 aa (fc.bd.more aa) bd.1 h13,ge:=⟨ku (hc.bd.cS hc.tr) aa,ku (bd.1.cS td) aa,uW (nZ hc.tr) (nZ td) hc.len bd.2 aa ((hc.bd.more aa).cS hc.tr) (bd.1.cS td) h13⟩,cg:=h1.chain g1 h2 hJ2,ch:=h1.chain g2 h2 hJ2,cd:=fun hz=>⟨h1.chain (hd hz) h2 hJ2,h1.Gc (hd hz) hJ2⟩,e1:=fun hz he hh=>?_,e2:=fun hz hne=>?_,lp:=fun hh=>?_}
 ·rw[hE hz]at hh
  unfold fD at hh
  rw[if_pos he]at hh
  have hh:=of_decide_eq_true hh
  obtain⟨w,hw⟩:=(lR fc.tr td).2
  rw[show cC (bK (aW (ak p)) (ak q)) s.1=Go.Am.aq (bK (aW (ak p)) (ak q)) s.1 from jn]at hh
  rw[show cC (ak q) s.1=Go.Am.aq (ak q) s.1 from jn,hw,hh,Rat.zero_mul]
 ·rw[hE hz,yS hne,Kl hc td,lz]
  have k:=yA hc.fG g2.fG (yJ hc.tr hc.p0 g2.tr g2.p0 (lR hc.tr td).1) s.1 s.2
  have nn:=g2.fG.oC s.1 s.2
  rw[hb1 hne]at k
  exact⟨fun h=>⟨uP g2 ((yS hne).2 h),aa⟩,fun h=>aa⟩
 ·have hz:(ak q).1≠0:=fun h0=>by unfold iS at hh;rw[decide_eq_true h0,Bool.true_or]at hh;cases hh
  have hdq:=hd hz
  rw[hE hz]at hh
  have hI:oX (ak p) s s:=⟨Rat.le_refl,Rat.le_refl,fun h=>hb1 (by grind)⟩
  have far:(∀i,i<=133140010->pG (ak q) (eu (aV (ak p)) (aS (ak p)) s i))->False:=fun hall=>by
   have hi:=oX.all (d:=ak q) hc hI hle h1 h2 133140010 fun i h=>hall i aa
   obtain⟨_,_,k3,k4⟩:=yI (n:=aV (ak p)) (c:=aS (ak p)) hle h1 h2 133140010
   obtain⟨n1,n2⟩:=hall 133140010 aX
   have hne:s.1≠s.2:=(hall 0 (Nat.zero_le _)).1
   generalize eu (aV (ak p)) (aS (ak p)) s 133140010=u at*
   have hu:u.1<u.2:=by grind
   rw[lz]at n2
   have hg0:bt (bK (ak p) (ak q)) s.1 s.2=0:=Decidable.byContradiction fun h=>by
    rw[<-Kl hc td]at h
    rw[(yS hne).2 h]at hh;cases hh
   have hm:=Pc g2 hi.1 hi.2.1
   have t7:T2 7=128:=by unfold T2;decide+kernel
   refine VY (x:=u.1) (y:=u.2) hc hdq g2 (fun k e1 e2=>qx e1 e2) ⟨by rw[t7];have:=hi.1;grind,by rw[t7];have:=hi.2.1;grind,hu⟩ ?_ (hi.2.2 hu) n2 aa
   have e:T2 133140010=T2 10*T2 133140000:=by rw[<-nw]
   have t10:T2 10=1024:=by unfold T2;decide+kernel
   rw[e,t10]at k4
   grind
  have hfin:ur (ak p) (ak q) s (vC (ak p) (ak q) s):=by
   refine Classical.epsilon_spec (p:=ur (ak p) (ak q) s) ?_
   rcases Ru (P:=fun i=>pG (ak q) (eu (aV (ak p)) (aS (ak p)) s i)) 133140010 with⟨j,_,h3,h4⟩|h
   ·exact⟨j,h3,h4⟩
   ·exact(far h).elim
  have hj0:vC (ak p) (ak q) s<=133140010:=Decidable.byContradiction fun hn=>far fun i hi=>hfin.2 i aa
  refine⟨hfin,fun j hj=>?_⟩
  obtain⟨k1,k2,k3,k4⟩:=yI (n:=aV (ak p)) (c:=aS (ak p)) hle h1 h2 j
  have hJ3:J+j<=2147000000:=aa
  have hJ4:J+j+1<=2147000000:=aa
  refine⟨k3,fun hs=>⟨Nat.succ_pos _,by have:=wh hc;omega,by have:=hs.1;grind,k1.nS hc hJ3,(k1.mid k2).nS hc hJ4,(k1.mid k2).Ma hJ4⟩,k1.nS hdq hJ3,k2.nS hdq hJ3,(k1.mid k2).Ma hJ4,(k1.mid k2).Gc hdq hJ4,fun hne hv=>?_⟩
  generalize eu (aV (ak p)) (aS (ak p)) s j=u at*
  obtain⟨m1,m2,_⟩:=qG (show u.1<u.2 by grind)
  rw[lz]
  have:=hdq.fG.root m1 m2 (qy hdq.tr hdq.p0 (by rw[<-hv];exact jn.symm))
  omega
theorem ZY {p q:PP} (hp:iQ p) (hq:iQ q) (hg:(ak p).1≠0->ck (ak p)) (hd:(ak q).1≠0->ck (ak q)) {i:Nat} (hi:i<(pF cj p).length):uN p (bN (pF cj p) i) q:=by
 rw[uJ hg]at hi ⊢
 by_cases h0:(ak p).1=0
 ·rw[show dP cj p=[]from if_pos h0]at hi;exact absurd hi (Nat.not_lt_zero _)
 ·have e:dP cj p=jT cj (aV (ak p)) (aS (ak p)):=if_neg h0
  rw[e]at hi ⊢
  have hm:=AG hi
  obtain⟨a,b⟩:=ED hm
  obtain⟨u,v⟩:=NJ (hg h0) hm
  obtain⟨j,j1,j2⟩:=a.dz
  obtain⟨k,k1,k2⟩:=b.dz
  have a2:=j2.zH (max j k-j)
  have b2:=k2.zH (max j k-k)
  rw[show j+(max j k-j)=max j k by omega]at a2
  rw[show k+(max j k-k)=max j k by omega]at b2
  exact afN hp hq hg hd a2 b2 (Nat.max_le.2 ⟨j1,k1⟩) (by grind) (by grind)
end Go.Am.B
namespace Go.Am
def iK:List Rat->PP
 |[]=>fJ
 |a::l=>bP (gb a) (iK l)
theorem qV {a t:Rat} {l:List Rat}:aq (iK (a::l)) t=(t-a)*aq (iK l) t:=by
 show aq (bP (gb a) (iK l)) t=_
 rw[bQ,jY]
theorem Ax {t:Rat}:∀{l:List Rat},aq (iK l) t=0↔t∈l
 |[]=>by
  rw[show iK []=fJ from rfl,gM]
  exact⟨fun h=>absurd h (by decide),fun h=>by cases h⟩
 |a::l=>by
  rw[qV,List.mem_cons,<-Ax (l:=l),Rat.mul_eq_zero]
  constructor
  ·rintro(h|h)
   ·exact .inl (by grind)
   ·exact .inr h
  ·rintro(h|h)
   ·exact .inl (by grind)
   ·exact .inr h
def kX (l:List Rat) (g:PP):Prop:=∃k:Rat,k≠0/\∀t,aq g t=k*aq (iK l) t
theorem EJ {a:Rat} {u v:PP} (h:∀t,(t-a)*aq u t=(t-a)*aq v t) (t:Rat):aq u t=aq v t:=
 vP (g:=gb a) (show 0<2 by decide) Cz (fun t=>by rw[jY];exact h t) t
theorem kX.dv:∀{l:List Rat} {c g:PP},kX l c->Dv g c->∃l',kX l' g/\∀a,a∈l'->a∈l
 |[],c,g,⟨k,k0,hk⟩,⟨w,hw⟩=>by
  have e:∀t,aq g t*aq w t=k:=fun t=>by rw[<-hw,hk,show iK []=fJ from rfl,gM,Rat.mul_one]
  have hk1:k⁻¹*k=1:=Rat.inv_mul_cancel _ k0
  obtain⟨z,hz⟩:=OH (GF (a:=b9 g) (w:=eM k⁻¹ w) eW fun t=>by rw[dO,dU];have:=e t;grind)
  have hz:∀t,aq g t=z:=fun t=>by rw[<-dO,hz]
  refine⟨[],⟨z,fun h0=>?_,fun t=>by rw[hz,show iK []=fJ from rfl,gM,Rat.mul_one]⟩,fun a h=>h⟩
  have:=e 0
  rw[hz,h0,Rat.zero_mul]at this
  exact k0 this.symm
 |a::l,c,g,⟨k,k0,hk⟩,⟨w,hw⟩=>by
  have e:∀t,aq g t*aq w t=k*((t-a)*aq (iK l) t):=fun t=>by rw[<-hw,hk,qV]
  have hc:kX l (eM k (iK l)):=⟨k,k0,fun t=>dU⟩
  by_cases h0:aq g a=0
  ·obtain⟨g1,h1⟩:=zq h0
   obtain⟨l',⟨z,z0,hz⟩,hl⟩:=kX.dv (g:=g1) hc ⟨w,fun t=>(EJ (a:=a) (u:=eM k (iK l)) (v:=bP g1 w) (fun t=>by
    have:=e t
    rw[h1,jY]at this
    rw[dU,bQ]
    grind) t).trans bQ⟩
   refine⟨a::l',⟨z,z0,fun t=>by rw[h1,jY,qV,hz];grind⟩,fun b hb=>?_⟩
   rcases List.mem_cons.1 hb with rfl|hb
   ·exact List.mem_cons_self
   ·exact List.mem_cons_of_mem _ (hl b hb)
  ·have hwa:aq w a=0:=by
    have:=e a
    rw[show a-a=0 by grind,Rat.zero_mul,Rat.mul_zero]at this
    exact(Rat.mul_eq_zero.1 this).resolve_left h0
   obtain⟨w1,h1⟩:=zq hwa
   obtain⟨l',hs,hl⟩:=kX.dv (g:=g) hc ⟨w1,fun t=>(EJ (a:=a) (u:=eM k (iK l)) (v:=bP g w1) (fun t=>by
    have:=e t
    rw[h1,jY]at this
    rw[dU,bQ]
    grind) t).trans bQ⟩
   exact⟨l',hs,fun b hb=>List.mem_cons_of_mem _ (hl b hb)⟩
theorem LK {x y:Rat} (hxy:x<y):∀{l:List Rat},(∀a,a∈l->¬(x<a/\a<y))->aq (iK l) x≠0->aq (iK l) y≠0->eG (aq (iK l) x) (aq (iK l) y)
 |[],_,_,_=>by rw[show iK []=fJ from rfl,gM,gM];exact .inl ⟨by decide,by decide⟩
 |a::l,h,hx,hy=>by
  rw[qV]at hx hy
  rw[qV,qV]
  have ha:=h a List.mem_cons_self
  have h1:x-a≠0:=fun h0=>hx (by rw[h0,Rat.zero_mul])
  have h2:y-a≠0:=fun h0=>hy (by rw[h0,Rat.zero_mul])
  refine eG.mul ?_ (LK hxy (fun b hb=>h b (List.mem_cons_of_mem _ hb)) (fun h0=>hx (by rw[h0,Rat.mul_zero])) fun h0=>hy (by rw[h0,Rat.mul_zero]))
  unfold eG
  grind
theorem tT {g c:PP} (h:Dv g c) {a:Rat} (ha:aq g a=0):aq c a=0:=by
 obtain⟨w,hw⟩:=h
 rw[hw,ha,Rat.zero_mul]
theorem AA {c:PP} (tc:Trim c) (c0:0<c.1):Dv (aW c) c:=by
 obtain⟨G,e,_,_,h,_⟩:=nC tc c0
 exact⟨G,fun t=>by rw[h,Rat.mul_comm]⟩
theorem DJ {g:PP} {s q:Nat} (h:jW g s q) {l:List Rat} (hs:kX l g) {x y:Rat} (hxy:x<y):bt g x y≠0->∃a,x<a/\a<y/\aq g a=0:=by
 obtain⟨r,hr⟩:=D0 hxy
 have hd:=AA h.tr h.p0
 obtain⟨l',⟨k,k0,hk⟩,hl⟩:=hs.dv hd
 refine EU (P:=fun x y=>bt g x y≠0->∃a,x<a/\a<y/\aq g a=0) (E:=mO s q r) (X:=-(T2 r)) (Y:=T2 r) (fun x y h1 h2 h3 h4 hb=>?_) (fun x m y _ _ h1 h2 p1 p2 hb=>?_) hr.1 hr.2.1 hxy
 ·rw[ot h3]at hb
  rcases h.near ⟨h1,h2,h3⟩ h4 with⟨e,n,_⟩|⟨e,n,ns,_⟩
  ·rw[if_neg n]at hb;omega
  ·have ny:aq (aW g) y≠0:=fun h0=>by rw[if_pos h0]at hb;omega
   refine Classical.byContradiction fun hno=>ns ?_
   rw[hk]at n
   rw[hk]at ny
   rw[hk,hk]
   refine(eG.self k0).mul (LK h3 (fun a ha hin=>hno ⟨a,hin.1,hin.2,tT hd ?_⟩) (fun h0=>n (by rw[h0,Rat.mul_zero])) fun h0=>ny (by rw[h0,Rat.mul_zero]))
   rw[hk,Ax.2 ha,Rat.mul_zero]
 ·by_cases b1:bt g x m=0
  ·by_cases hm:aq (aW g) m=0
   ·exact⟨m,h1,h2,tT hd hm⟩
   ·rw[pg h1 h2,b1,if_neg hm]at hb
    obtain⟨a,a1,a2,a3⟩:=p2 fun h0=>hb (by rw[h0];rfl)
    exact⟨a,by grind,a2,a3⟩
  ·obtain⟨a,a1,a2,a3⟩:=p1 b1
   exact⟨a,a1,by grind,a3⟩
theorem yw {g:PP} {s q:Nat} (h:jW g s q) {x a y:Rat} (h1:x<a) (h2:a<y) (ha:aq g a=0):1<=bt g x y:=h.root h1 h2 (qy h.tr h.p0 ha)
theorem Cn {g:PP} {s q:Nat} (h:jW g s q) {x a b y:Rat} (hb:bt g x y=1) (h1:x<a) (h2:a<y) (h3:x<b) (h4:b<y) (ha:aq g a=0) (hb2:aq g b=0):a=b:=by
 have key:∀{a b:Rat},x<a->a<y->x<b->b<y->aq g a=0->aq g b=0->¬a<b:=fun {a b} h1 h2 h3 h4 ha hb2 hab=>by
  have:=yw h hab h4 hb2
  have nn:=h.oC x a
  rw[pg h1 h2,if_pos (qy h.tr h.p0 ha)]at hb
  omega
 have k1:=key h1 h2 h3 h4 ha hb2
 have k2:=key h3 h4 h1 h2 hb2 ha
 grind
def Od (a:Rat) (n:Nat) (g:PP):Prop:=∃w:PP,(∀t,aq g t=(t-a)^n*aq w t)/\aq w a≠0
theorem Od.zero {a:Rat} {g:PP} (h:Od a 0 g):aq g a≠0:=by
 obtain⟨w,h1,h2⟩:=h
 rw[h1,Rat.pow_zero,Rat.one_mul];exact h2
theorem Od.pos {a:Rat} {n:Nat} {g:PP} (h:Od a (n+1) g):aq g a=0:=by
 obtain⟨w,h1,_⟩:=h
 rw[h1,Rat.pow_succ,show a-a=0 by grind,Rat.mul_zero,Rat.zero_mul]
theorem nQ {a t:Rat} (n:Nat):aq (fm (gb a) n) t=(t-a)^n:=by rw[nP,jY]
theorem VD {a:Rat} {n:Nat} {u v:PP} (h:∀t,(t-a)^n*aq u t=(t-a)^n*aq v t) (t:Rat):aq u t=aq v t:=
 Cl (d:=gb a) (show 0<2 by decide) Cz n (fun t=>by rw[jY];exact h t) t
theorem Od.gcd {a:Rat} {n:Nat} {c:PP} (tc:Trim c) (c0:0<c.1) (h:Od a (n+1) c):Od a n (bK c (bh c)):=by
 obtain⟨w,h1,h2⟩:=h
 obtain⟨⟨u,hu⟩,⟨v,hv⟩⟩:=lR tc (dZ (a:=c))
 -- the derivative
 have e2:∀t,aq (bh c) t=(t-a)^n*(((n+1:Nat):Int)*aq w t+(t-a)*cV w t):=fun t=>by
  have hp:=vp (d:=gb a) (t:=t) (n+1)
  have e3:cV c t=cV (fm (gb a) (n+1)) t*aq w t+aq (fm (gb a) (n+1)) t*cV w t:=ko (a:=fm (gb a) (n+1)) (b:=w) (c:=c) (fun t=>by rw[nQ,h1]) t
  rw[fH,e3,nQ]
  have e4:cV (fm (gb a) (n+1)) t=(((n+1:Nat):Int):Rat)*(t-a)^n:=by
   have e5:∀t,aq (bh (fm (gb a) (n+1))) t=aq (eM (((n+1:Nat):Int):Rat) (fm (gb a) n)) t:=EJ (a:=a) fun t=>by
    have hp:=vp (d:=gb a) (t:=t) (n+1)
    rw[jY,Gk]at hp
    rw[fH,dU,nQ,hp,Rat.pow_succ];grind
   have:=e5 t
   rwa [fH,dU,nQ]at this
  rw[e4,Rat.pow_succ];grind
 obtain⟨m,hm⟩:Dv (fm (gb a) n) (bK c (bh c)):=qx ⟨bP (gb a) w,fun t=>by rw[nQ,bQ,jY,h1,Rat.pow_succ];grind⟩ ⟨gL (eM (((n+1:Nat):Int):Rat) w) (bP (gb a) (bh w)),fun t=>by rw[nQ,e2,iC,dU,bQ,jY,fH]⟩
 refine⟨m,fun t=>by rw[hm,nQ],fun h0=>?_⟩
 have e6:∀t,aq (gL (eM (((n+1:Nat):Int):Rat) w) (bP (gb a) (bh w))) t=aq (bP m v) t:=VD (a:=a) (n:=n) fun t=>by
  have:=hv t
  rw[e2,hm,nQ]at this
  rw[iC,dU,bQ,jY,fH,bQ];grind
 have e7:=e6 a
 rw[iC,dU,bQ,jY,show a-a=0 by grind,Rat.zero_mul,bQ,h0,Rat.zero_mul,Rat.add_zero]at e7
 rcases Rat.mul_eq_zero.1 e7 with h|h
 ·exact mV (D:=((n+1:Nat):Int)) aa h
 ·exact h2 h
def iw (a:Rat):List (Rat×Nat)->List (Rat×Nat)
 |[]=>[(a,1)]
 |p::l=>if p.1<a then p::iw a l else if p.1=a then(p.1,p.2+1)::l else(a,1)::p::l
def m8:List Rat->List (Rat×Nat)
 |[]=>[]
 |a::l=>iw a (m8 l)
def l9:List (Rat×Nat)->PP
 |[]=>fJ
 |p::l=>bP (fm (gb p.1) p.2) (l9 l)
theorem pU {p:Rat×Nat} {l:List (Rat×Nat)} {t:Rat}:aq (l9 (p::l)) t=(t-p.1)^p.2*aq (l9 l) t:=by
 show aq (bP (fm (gb p.1) p.2) (l9 l)) t=_
 rw[bQ,nQ]
theorem ME {a t:Rat}:∀{l:List (Rat×Nat)},aq (l9 (iw a l)) t=(t-a)*aq (l9 l) t
 |[]=>by
  show aq (l9 [(a,1)]) t=_
  rw[pU,show(t-a)^1=t-a by rw[Rat.pow_succ,Rat.pow_zero,Rat.one_mul]]
 |p::l=>by
  unfold iw
  split
  ·rw[pU,ME (l:=l),pU];grind
  ·split
   ·rename_i h
    rw[pU,pU,<-h]
    show(t-p.1)^(p.2+1)*_=_
    rw[Rat.pow_succ];grind
   ·rw[pU]
    show(t-a)^1*_=_
    rw[show(t-a)^1=t-a by rw[Rat.pow_succ,Rat.pow_zero,Rat.one_mul]]
theorem LH {t:Rat}:∀{l:List Rat},aq (l9 (m8 l)) t=aq (iK l) t
 |[]=>rfl
 |a::l=>by
  show aq (l9 (iw a (m8 l))) t=_
  rw[ME,LH,qV]
theorem Ef {a b:Rat}:∀{l:List (Rat×Nat)},b∈(iw a l).map (·.1)↔b=a\/b∈l.map (·.1)
 |[]=>by simp[iw]
 |p::l=>by
  unfold iw
  split
  ·simp only[List.map_cons,List.mem_cons,Ef (l:=l)]
   grind
  ·split
   ·rename_i h
    simp only[List.map_cons,List.mem_cons]
    grind
   ·simp only[List.map_cons,List.mem_cons]
theorem uV {b:Rat}:∀{l:List Rat},b∈(m8 l).map (·.1)↔b∈l
 |[]=>Iff.rfl
 |a::l=>by
  show b∈(iw a (m8 l)).map (·.1)↔_
  rw[Ef,uV,List.mem_cons]
theorem Pd {a:Rat}:∀{l:List (Rat×Nat)},(l.map (·.1)).Pairwise (·<·)->((iw a l).map (·.1)).Pairwise (·<·)
 |[],_=>by simp[iw]
 |p::l,h=>by
  rw[List.map_cons,List.pairwise_cons]at h
  unfold iw
  split
  ·rename_i hp
   rw[List.map_cons,List.pairwise_cons]
   refine⟨fun b hb=>?_,Pd h.2⟩
   rcases Ef.1 hb with rfl|hb
   ·exact hp
   ·exact h.1 b hb
  ·split
   ·rw[List.map_cons,List.pairwise_cons];exact h
   ·rename_i h1 h2
    rw[List.map_cons,List.pairwise_cons,List.map_cons,List.pairwise_cons]
    refine⟨fun b hb=>?_,h⟩
    rcases List.mem_cons.1 hb with rfl|hb
    ·show a<p.1;grind
    ·have:=h.1 b hb
     show a<b
     grind
theorem C7:∀{l:List Rat},((m8 l).map (·.1)).Pairwise (·<·)
 |[]=>List.Pairwise.nil
 |_::_=>Pd C7
theorem Ls {a:Rat}:∀{l:List (Rat×Nat)},(iw a l).length<=l.length+1
 |[]=>aX
 |p::l=>by
  unfold iw
  split
  ·have:=Ls (a:=a) (l:=l);simp only[List.length_cons];omega
  ·split
   ·simp
   ·simp
theorem Pe:∀{l:List Rat},(m8 l).length<=l.length
 |[]=>aX
 |a::l=>by
  have h1:=Ls (a:=a) (l:=m8 l)
  have h2:=Pe (l:=l)
  show(iw a (m8 l)).length<=l.length+1
  omega
theorem HZ {a:Rat} {n:Nat}:∀{l:List (Rat×Nat)},(l.map (·.1)).Pairwise (·<·)->(a,n)∈l->Od a n (l9 l)
 |p::l,h,hm=>by
  rw[List.map_cons,List.pairwise_cons]at h
  rcases List.mem_cons.1 hm with e|hm
  ·refine⟨l9 l,fun t=>by rw[pU,<-e],?_⟩
   have:∀{m:List (Rat×Nat)},(∀b,b∈m.map (·.1)->a<b)->aq (l9 m) a≠0:=fun {m}=>by
    induction m with
    |nil=>intro _;rw[show l9 []=fJ from rfl,gM];decide
    |cons q m ih=>
     intro hb
     rw[pU]
     intro h0
     rcases Rat.mul_eq_zero.1 h0 with h0|h0
     ·have h1:a<q.1:=hb q.1 (by simp)
      have:∀k:Nat,(a-q.1)^k≠0:=fun k=>by
       induction k with
       |zero=>rw[Rat.pow_zero];decide
       |succ k ih=>rw[Rat.pow_succ];intro hz;rcases Rat.mul_eq_zero.1 hz with hz|hz;exact ih hz;grind
      exact this _ h0
     ·exact ih (fun b h=>hb b (by rw[List.map_cons];exact List.mem_cons_of_mem _ h)) h0
   exact this fun b hb=>by have:=h.1 b hb;rw[<-e]at this;exact this
  ·obtain⟨w,h1,h2⟩:=HZ h.2 hm
   refine⟨bP (fm (gb p.1) p.2) w,fun t=>by rw[pU,h1,bQ,nQ];grind,?_⟩
   rw[bQ,nQ]
   have hlt:p.1<a:=h.1 a (List.mem_map.2 ⟨(a,n),hm,rfl⟩)
   have:∀k:Nat,(a-p.1)^k≠0:=fun k=>by
    induction k with
    |zero=>rw[Rat.pow_zero];decide
    |succ k ih=>rw[Rat.pow_succ];intro hz;rcases Rat.mul_eq_zero.1 hz with hz|hz;exact ih hz;grind
   intro h0
   rcases Rat.mul_eq_zero.1 h0 with h0|h0
   ·exact this _ h0
   ·exact h2 h0
end Go.Am
namespace Go.Am.B
open Go Go.Am.N AV af au IntKind Proofs.Tryz
def j0 (c:PP) (s:Rat×Rat) (a:Rat):Prop:=(s.1=a/\s.2=a)\/(s.1<a/\a<s.2/\bt c s.1 s.2=1)
def Mt (c:PP):List (Rat×Rat)->List Rat->Prop
 |[],[]=>True
 |s::l,a::m=>j0 c s a/\Mt c l m
 |_,_=>False
theorem Mt.app {c:PP}:∀{l l':List (Rat×Rat)} {m m':List Rat},Mt c l m->Mt c l' m'->Mt c (l++l') (m++m')
 |[],_,[],_,_,h=>h
 |_::_,_,_::_,_,⟨h1,h2⟩,h=>⟨h1,Mt.app h2 h⟩
 |[],_,_::_,_,h,_=>h.elim
 |_::_,_,[],_,h,_=>h.elim
theorem Mt.len {c:PP}:∀{l:List (Rat×Rat)} {m:List Rat},Mt c l m->l.length=m.length
 |[],[],_=>rfl
 |_::_,_::_,⟨_,h⟩=>by rw[List.length_cons,List.length_cons,Mt.len h]
 |[],_::_,h=>h.elim
 |_::_,[],h=>h.elim
theorem Mt.at {c:PP}:∀{l:List (Rat×Rat)} {m:List Rat} {i:Nat},Mt c l m->i<l.length->j0 c (bN l i) (m.getD i 0)
 |_::_,_::_,0,⟨h,_⟩,_=>h
 |_::l,_::m,i+1,⟨_,h⟩,hi=>Mt.at (l:=l) (m:=m) (i:=i) h (by rw[List.length_cons]at hi;omega)
 |[],_,i,_,hi=>absurd hi (Nat.not_lt_zero i)
 |_::_,[],_,h,_=>h.elim
theorem B3 (m:Rat):∀{L:List Rat},L.Pairwise (·<·)->∃A B,L=A++((if m∈L then [m]else [])++B)/\(∀a,a∈A->a<m)/\∀b,b∈B->m<b
 |[],_=>⟨[],[],rfl,(fun _ h=>by cases h),(fun _ h=>by cases h)⟩
 |a::l,h=>by
  rw[List.pairwise_cons]at h
  rcases(show a<m\/a=m\/m<a by grind)with ha|ha|ha
  ·obtain⟨A,B,e,h1,h2⟩:=B3 m h.2
   refine⟨a::A,B,?_,fun b hb=>?_,h2⟩
   ·have:m∈a::l↔m∈l:=by rw[List.mem_cons];exact⟨fun h=>h.resolve_left (by grind),.inr⟩
    rw[List.cons_append]
    congr 1
    by_cases hm:m∈l
    ·rw[if_pos (this.2 hm)];rw[if_pos hm]at e;exact e
    ·rw[if_neg (fun h=>hm (this.1 h))];rw[if_neg hm]at e;exact e
   ·rcases List.mem_cons.1 hb with rfl|hb
    ·exact ha
    ·exact h1 b hb
  ·subst ha
   exact⟨[],l,by rw[if_pos List.mem_cons_self];rfl,(fun _ h=>by cases h),h.1⟩
  ·have hn:¬m∈a::l:=fun hm=>by
    rcases List.mem_cons.1 hm with e|hm
    ·grind
    ·have:=h.1 m hm;grind
   refine⟨[],a::l,by rw[if_neg hn];rfl,(fun _ h=>by cases h),fun b hb=>?_⟩
   rcases List.mem_cons.1 hb with rfl|hb
   ·exact ha
   ·have:=h.1 b hb;grind
theorem Fk {c:PP} (hc:ck c) {l:List Rat} (hs:kX l c):∀e {x y:Rat},x<y->j9 (aV c) (aS c) e x y->∀L:List Rat,L.Pairwise (·<·)->(∀a,a∈L->x<a/\a<y/\Go.Am.aq c a=0)->(∀a,x<a->a<y->Go.Am.aq c a=0->a∈L)->Mt c (ek (aV c) (aS c) e x y) L
 |0,_,_,_,h,_,_,_,_=>h.elim
 |e+1,x,y,hxy,h,L,hL,hin,hall=>by
  obtain⟨_,_,h3⟩:=h
  unfold ek
  rw[lz]at h3 ⊢
  by_cases h0:bt c x y=0
  ·rw[if_pos h0]
   cases L with
   |nil=>exact trivial
   |cons a L=>
    obtain⟨a1,a2,a3⟩:=hin a List.mem_cons_self
    have:=yw hc.fG a1 a2 a3
    omega
  ·rw[if_neg h0]
   by_cases h1:bt c x y=1
   ·rw[if_pos h1]
    have e1:gh x y=x:=if_neg (by grind)
    have e2:fR x y=y:=by unfold fR;split<;>grind
    rw[e1,e2]
    obtain⟨a,a1,a2,a3⟩:=DJ hc.fG hs hxy h0
    have ha:=hall a a1 a2 a3
    have one:∀b,b∈L->b=a:=fun b hb=>by
     obtain⟨b1,b2,b3⟩:=hin b hb
     exact Cn hc.fG h1 b1 b2 a1 a2 b3 a3
    match L,hL,one,ha with
    |[],_,_,ha=>cases ha
    |[b],_,one,_=>exact⟨.inr (by rw[one b List.mem_cons_self];exact⟨a1,a2,h1⟩),trivial⟩
    |b::b'::L,hL,one,_=>
     exfalso
     rw[List.pairwise_cons]at hL
     have:=hL.1 b' List.mem_cons_self
     rw[one b List.mem_cons_self,one b' (List.mem_cons_of_mem _ List.mem_cons_self)]at this
     grind
   ·obtain⟨_,a,b⟩:=h3 h0 h1
    obtain⟨m1,m2,_⟩:=qG hxy
    have e2:cC (aS c 0) (bE x y)=Go.Am.aq (aW c) (bE x y):=jn
    rw[if_neg h1]
    obtain⟨A,B,eL,hA,hB⟩:=B3 (bE x y) hL
    have hmem:bE x y∈L↔cC (aS c 0) (bE x y)=0:=by
     rw[e2]
     exact⟨fun h=>qy hc.tr hc.p0 (hin _ h).2.2,fun h=>hall _ m1 m2 (tT (AA hc.tr hc.p0) h)⟩
    have hL':=eL▸hL
    obtain⟨pA,pR,_⟩:=List.pairwise_append.1 hL'
    obtain⟨_,pB,_⟩:=List.pairwise_append.1 pR
    have EM:∀z,z∈A->z∈L:=fun z hz=>by rw[eL];exact List.mem_append_left _ hz
    have inB:∀z,z∈B->z∈L:=fun z hz=>by rw[eL];exact List.mem_append_right _ (List.mem_append_right _ hz)
    have inM:∀z,z∈(if bE x y∈L then [bE x y]else [])->z=bE x y:=fun z hz=>by
     split at hz
     ·exact List.mem_singleton.1 hz
     ·cases hz
    have split3:∀z,z∈L->z∈A\/z=bE x y\/z∈B:=fun z hz=>by
     rw[eL]at hz
     rcases List.mem_append.1 hz with h|h
     ·exact .inl h
     ·rcases List.mem_append.1 h with h|h
      ·exact .inr (.inl (inM z h))
      ·exact .inr (.inr h)
    have i1:=Fk hc hs e m1 a A pA (fun z hz=>⟨(hin z (EM z hz)).1,hA z hz,(hin z (EM z hz)).2.2⟩) fun z z1 z2 z3=>by
     rcases split3 z (hall z z1 (by grind) z3)with h|h|h
     ·exact h
     ·grind
     ·have:=hB z h;grind
    have i2:=Fk hc hs e m2 b B pB (fun z hz=>⟨hB z hz,(hin z (inB z hz)).2.1,(hin z (inB z hz)).2.2⟩) fun z z1 z2 z3=>by
     rcases split3 z (hall z (by grind) z2 z3)with h|h|h
     ·have:=hA z h;grind
     ·grind
     ·exact h
    by_cases hm:bE x y∈L
    ·rw[if_pos (hmem.1 hm)]
     rw[if_pos hm]at eL
     rw[eL]
     exact i1.app ⟨.inl ⟨rfl,rfl⟩,i2⟩
    ·rw[if_neg (fun h=>hm (hmem.2 h))]
     rw[if_neg hm]at eL
     rw[eL]
     exact i1.app i2
theorem Xm {c:PP} (hc:ck c) {l:List Rat} (hs:kX l c) {L:List Rat} (hL:L.Pairwise (·<·)) (hin:∀a,a∈L->0<=a/\a<=1/\Go.Am.aq c a=0) (hall:∀a,0<=a->a<=1->Go.Am.aq c a=0->a∈L):Mt c (jT cj (aV c) (aS c)) L:=by
 have hD:=nH
 have lk:=wX hc cj 0 0 1 aa aa jI.zero
 have h01:(0:Rat)<1:=by decide
 obtain⟨A,B,eL,hA,hB⟩:=B3 0 hL
 have root:∀z:Rat,cC (aS c 0) z=0↔Go.Am.aq c z=0:=fun z=>by
  rw[show cC (aS c 0) z=Go.Am.aq (aW c) z from jn]
  exact⟨fun h=>tT (AA hc.tr hc.p0) h,fun h=>qy hc.tr hc.p0 h⟩
 have hm0:(0:Rat)∈L↔cC (aS c 0) 0=0:=by rw[root];exact⟨fun h=>(hin _ h).2.2,fun h=>hall _ Rat.le_refl (by grind) h⟩
 have hm1:(1:Rat)∈L↔cC (aS c 0) 1=0:=by rw[root];exact⟨fun h=>(hin _ h).2.2,fun h=>hall _ (by grind) Rat.le_refl h⟩
 have eA:A=[]:=by
  cases A with
  |nil=>rfl
  |cons a A=>
   have h1:=hA a List.mem_cons_self
   have h2:=hin a (by rw[eL];exact List.mem_append_left _ List.mem_cons_self)
   exfalso;grind
 subst eA
 rw[List.nil_append]at eL
 have hL':=eL▸hL
 obtain⟨_,pB,_⟩:=List.pairwise_append.1 hL'
 have inB:∀z,z∈B->z∈L:=fun z hz=>by rw[eL];exact List.mem_append_right _ hz
 have inB2:∀z,z∈L->0<z->z∈B:=fun z hz h0=>by
  rw[eL]at hz
  rcases List.mem_append.1 hz with h|h
  ·split at h
   ·rw[List.mem_singleton]at h;grind
   ·cases h
  ·exact h
 obtain⟨A1,B1,eB,hA1,hB1⟩:=B3 1 pB
 have eB1:B1=[]:=by
  cases B1 with
  |nil=>rfl
  |cons b B1=>
   have h1:=hB1 b List.mem_cons_self
   have h2:=hin b (inB b (by rw[eB];exact List.mem_append_right _ (List.mem_append_right _ List.mem_cons_self)))
   exfalso;grind
 subst eB1
 rw[List.append_nil]at eB
 obtain⟨pA1,_,_⟩:=List.pairwise_append.1 (eB▸pB)
 have inA1:∀z,z∈A1->z∈B:=fun z hz=>by rw[eB];exact List.mem_append_left _ hz
 have h1B:(1:Rat)∈B↔(1:Rat)∈L:=⟨fun h=>inB _ h,fun h=>inB2 _ h h01⟩
 have mid:=Fk hc hs cj h01 lk A1 pA1 (fun z hz=>⟨hB z (inA1 z hz),hA1 z hz,(hin z (inB z (inA1 z hz))).2.2⟩) fun z z1 z2 z3=>by
  have hz:=inB2 z (hall z (by grind) (by grind) z3) z1
  rw[eB]at hz
  rcases List.mem_append.1 hz with h|h
  ·exact h
  ·split at h
   ·rw[List.mem_singleton]at h;grind
   ·cases h
 rw[eL]
 unfold jT
 rw[List.append_assoc]
 refine Mt.app ?_ ?_
 ·by_cases h:(0:Rat)∈L
  ·rw[if_pos h,if_pos (hm0.1 h)];exact⟨.inl ⟨rfl,rfl⟩,trivial⟩
  ·rw[if_neg h,if_neg fun h2=>h (hm0.2 h2)];exact trivial
 ·rw[eB]
  refine Mt.app mid ?_
  by_cases h:(1:Rat)∈L
  ·rw[if_pos (h1B.2 h),if_pos (hm1.1 h)];exact⟨.inl ⟨rfl,rfl⟩,trivial⟩
  ·rw[if_neg fun h2=>h (h1B.1 h2),if_neg fun h2=>h (hm1.2 h2)];exact trivial
theorem aey {c g:PP} (hc:ck c) (hg:ck g) {l:List Rat} (hs:kX l c) (hd:Dv g c) {s:Rat×Rat} {a:Rat} (h:j0 c s a) (ha:Go.Am.aq c a=0):fD g s.1 s.2=true↔Go.Am.aq g a=0:=by
 rcases h with⟨h1,h2⟩|⟨h1,h2,h3⟩
 ·unfold fD
  rw[if_pos (h1.trans h2.symm),decide_eq_true_iff,h1]
  exact⟨fun h=>by rw[<-h];exact jn.symm,fun h=>by rw[<-h];exact jn⟩
 ·rw[yS (by grind)]
  constructor
  ·intro hb
   obtain⟨l',hl',_⟩:=hs.dv hd
   obtain⟨b,b1,b2,b3⟩:=DJ hg.fG hl' (by grind) hb
   rw[<-Cn hc.fG h3 b1 b2 h1 h2 (tT hd b3) ha];exact b3
  ·intro h0
   have:=yw hg.fG h1 h2 h0
   omega
theorem Pt {c:PP} (hc:ck c):∀j,Dv (fZ c j) c
 |0=>.refl c
 |j+1=>(Hu hc j).trans (Pt hc j)
theorem Mo {c:PP} (hc:ck c) {a:Rat} {n:Nat} (h:Od a n c):∀j,j<=n->Od a (n-j) (fZ c j)
 |0,_=>h
 |j+1,hj=>by
  have ih:=Mo hc h j aa
  rw[show n-j=n-(j+1)+1 by omega]at ih
  exact ih.gcd (oD hc j).tr (oD hc j).p0
theorem adN {c:PP} (hc:ck c) {l:List Rat} (hs:kX l c) {s:Rat×Rat} {a:Rat} {n:Nat} (h:j0 c s a) (hn:1<=n) (ho:Od a n c):lO c s.1 s.2 c.1 0=n:=by
 have ha:Go.Am.aq c a=0:=by
  obtain⟨m,rfl⟩:∃m,n=m+1:=⟨n-1,aa⟩
  exact ho.pos
 obtain⟨_,j2,j3⟩:=FT hc (x:=s.1) (y:=s.2) c.1 0 aX
 generalize lO c s.1 s.2 c.1 0=J at*
 have key:∀i,i<=n->(fD (fZ c i) s.1 s.2=true↔i<n):=fun i hi=>by
  rw[aey hc (oD hc i) hs (Pt hc i) h ha]
  have hod:=Mo hc ho i hi
  constructor
  ·intro h0
   refine Decidable.byContradiction fun hni=>?_
   rw[show n-i=0 by omega]at hod
   exact hod.zero h0
  ·intro h0
   rw[show n-i=n-i-1+1 by omega]at hod
   exact hod.pos
 rcases Nat.lt_trichotomy J n with h1|h1|h1
 ·have:=(key J aa).2 h1
  exact absurd ⟨uP (oD hc J) this,this⟩ j3
 ·exact h1
 ·have:=(key n aX).1 (j2 n (Nat.zero_le _) h1)
  omega
theorem j0.half {c:PP} (hc:ck c) {l:List Rat} (hs:kX l c) {s:Rat×Rat} {a:Rat} (h:j0 c s a) (ha:Go.Am.aq c a=0) (hlt:s.1<s.2):j0 c (iH (aV c) (aS c) s) a:=by
 rcases h with⟨h1,h2⟩|⟨h1,h2,h3⟩
 ·exfalso;grind
 have hI:oX c s s:=⟨Rat.le_refl,Rat.le_refl,fun _=>h3⟩
 have hh:=(hI.half hc hlt).2.2
 obtain⟨m1,m2,_⟩:=qG hlt
 have e2:cC (aS c 0) (bE s.1 s.2)=Go.Am.aq (aW c) (bE s.1 s.2):=jn
 unfold iH at hh ⊢
 split at hh
 ·rename_i hr
  rw[if_pos hr]
  rw[e2]at hr
  have:=Cn hc.fG h3 m1 m2 h1 h2 (tT (AA hc.tr hc.p0) hr) ha
  exact .inl ⟨this,this⟩
 ·rename_i hr
  rw[if_neg hr]
  rw[e2]at hr
  have hma:bE s.1 s.2≠a:=fun h0=>hr (by rw[h0];exact qy hc.tr hc.p0 ha)
  split at hh
  ·rename_i hb
   rw[if_pos hb]
   rw[lz]at hb
   obtain⟨b,b1,b2,b3⟩:=DJ hc.fG hs m1 aa
   have:=Cn hc.fG h3 b1 (by grind) h1 h2 b3 ha
   exact .inr ⟨h1,by rw[<-this];exact b2,hb⟩
  ·rename_i hb
   rw[if_neg hb]
   rw[lz]at hb
   have hlt2:bE s.1 s.2<a:=by
    refine Decidable.byContradiction fun hn=>hb ?_
    have k1:=yw hc.fG h1 (show a<bE s.1 s.2 by grind) ha
    have k2:=Pc hc (x:=s.1) (y:=s.2) (x':=s.1) (y':=bE s.1 s.2) Rat.le_refl (by grind)
    omega
   exact .inr ⟨hlt2,h2,hh m2⟩
theorem j0.rf {c:PP} (hc:ck c) {l:List Rat} (hs:kX l c) {a w:Rat} (ha:Go.Am.aq c a=0) (hw:0<=w):∀(f:Nat) {s:Rat×Rat},j0 c s a->j0 c (pe (aV c) (aS c) w f s) a
 |0,_,h=>h
 |f+1,s,h=>by
  unfold pe
  split
  ·exact j0.rf hc hs ha hw f (h.half hc hs ha (by grind))
  ·exact h
theorem j0.fits {c:PP} {s:Rat×Rat} {a:Rat} (h:j0 c s a) (ha:Go.Am.aq c a=0):kQ c s=true:=by
 unfold kQ
 rcases h with⟨h1,h2⟩|⟨h1,h2,h3⟩
 ·rw[if_pos (h1.trans h2.symm),uo.2 (by grind),Bool.true_and,h1]
  exact decide_eq_true (by rw[<-ha];exact jn)
 ·rw[if_neg (by grind),uo.2 (by grind),Bool.true_and,lz]
  exact decide_eq_true h3
theorem j0.le {c:PP} {s:Rat×Rat} {a:Rat} (h:j0 c s a):s.1<=a/\a<=s.2:=by
 rcases h with⟨h1,h2⟩|⟨h1,h2,_⟩<;>exact⟨by grind,by grind⟩
theorem acn {p q:PP} {s:Rat×Rat} {a:Rat} (hc:ck (ak p)) (hq:(ak q).1≠0) (h:j0 (ak p) s a) (ha:Go.Am.aq (ak p) a=0) (hd:Go.Am.aq (ak q) a=0):js p s=0/\lW p s q=0:=by
 have hp0:=hc.p0
 have he:js p s=0:=by unfold js;rw[if_neg aa,h.fits ha];rfl
 refine⟨he,?_⟩
 have td:Trim (ak q):=mJ
 have g1:=yM hc.free.1 td
 have hga:Go.Am.aq (bK (aW (ak p)) (ak q)) a=0:=tT (qx (zq (qy hc.tr hc.p0 ha)) (zq hd)) (by rw[jY];grind)
 have hE:fD (bK (aW (ak p)) (ak q)) s.1 s.2=true:=by
  rcases h with⟨h1,h2⟩|⟨h1,h2,h3⟩
  ·unfold fD
   rw[if_pos (h1.trans h2.symm),h1]
   exact decide_eq_true (by rw[<-hga];exact jn)
  ·rw[yS (by grind)]
   have:=yw g1.fG h1 h2 hga
   omega
 have hsi:iS p q s=true:=by
  have:iS p q s=(decide (1<(bK (aW (ak p)) (ak q)).1)&&jS (aV (bK (aW (ak p)) (ak q))) (aS (bK (aW (ak p)) (ak q))) s.1 s.2):=by
   unfold iS
   rw[decide_eq_false hq,Bool.false_or];rfl
  rw[this,DT g1,hE,decide_eq_true (uP g1 hE)];rfl
 unfold lW
 rw[if_pos he,if_pos hsi]
def ju (z:Nat->Int):Nat->List Rat
 |0=>[]
 |i+1=>dI (z i)::ju z i
def iA (a:Rat):PP:=(2,fun i=>aN (nth [AV.rat (-a) 64,AV.rat (((1:Int):Rat)-a) (max 1 (bS (Int.natAbs 1))+64+1)] (.rat 0 1) (i+0)))
def cq (z:Nat->Int):Nat->PP
 |0=>(1,fun _=>3)
 |i+1=>oP (cq z i) (iA (dI (z i)))
def vh (x a y:Rat):Bool:=decide (x<=a/\a<=y)
def dJ (z:Nat->Int) (i:Nat):List (Rat×Nat):=m8 (ju z i)
def eU (L:List (Rat×Nat)) (i:Nat):Rat×Nat:=L.getD i (0,0)
def nV (w:Int):Rat:=((1:Int):Rat)/((1+w%60:Int):Rat)
theorem aat {d:Int}:0<=dI d/\dI d<=1:=by
 obtain⟨p1,p2,p3,p4⟩:=Lt (d:=d)
 have hne:((ia d:Int):Rat)≠0:=mV aa
 have e:dI d*((ia d:Int):Rat)=((d%(ia d+1):Int):Rat):=by
  unfold dI
  rw[Rat.div_def,Rat.mul_assoc,Rat.mul_comm _ ((ia d:Int):Rat),Rat.mul_inv_cancel _ hne,Rat.mul_one]
 have h1:=me p1
 have h3:=me p3
 have h4:=me p4
 rw[<-e]at h3 h4
 have h1:(1:Rat)<=((ia d:Int):Rat):=h1
 have h3:(0:Rat)<=dI d*((ia d:Int):Rat):=h3
 generalize ((ia d:Int):Rat)=M at*
 generalize dI d=x at*
 constructor
 ·refine Decidable.byContradiction fun hn=>?_
  have:=Rat.mul_pos (a:=-x) (b:=M) (by grind) (by grind)
  grind
 ·refine Decidable.byContradiction fun hn=>?_
  have:=Rat.mul_pos (a:=x-1) (b:=M) (by grind) (by grind)
  grind
theorem DC {d:Int}:sW (iA (dI d)):=⟨by show 1<=2;decide,by show 2<=3;decide,adV.congr fun i hi=>by
 rcases(show i=0\/i=1 by omega)with rfl|rfl<;>rfl⟩
theorem C1 {a t:Rat}:jd (iA a) t=t-a:=by
 show(1-t)*(-a)+t*(((1:Int):Rat)-a)=t-a
 rw[show((1:Int):Rat)=1 from rfl];grind
structure ZQ (z:Nat->Int) (i:Nat):Prop where
 len:(cq z i).1=i+1
 bd:Bd (cq z i) (2+200*i)
 pw:∃c:PP,(∀t,Go.Am.aq c t=jd (cq z i) t)/\Bd c (2+26*i)/\c.1<=1+3*i
 dv:tU i (cq z i)
 ev:∀t,jd (cq z i) t=3*Go.Am.aq (iK (ju z i)) t
theorem Pv:cW 1 (fun _=>(3:Rat)) 2:=⟨1,by decide,by decide,fun _ _=>bY.int (z:=3) (by decide)⟩
theorem Ar {z:Nat->Int}:∀i,i<=6->ZQ z i
 |0,_=>{
  len:=rfl
  bd:=Pv
  pw:=⟨(1,fun _=>3),fun t=>by
   show 0+3*t^0=3
   rw[Rat.pow_zero];decide+kernel,Pv,aX⟩
  dv:=fun _ g tg g0 hd=>kz.one g tg g0 (hd.rE (1/3) (b:=fJ) fun t=>by
   rw[gM]
   show(1:Rat)=1/3*Go.Am.aq (kZ (1,fun _=>3)) t
   rw[lZ (show 1<=1 by decide)]
   show(1:Rat)=1/3*3
   decide+kernel)
  ev:=fun t=>by
   show(3:Rat)=3*Go.Am.aq fJ t
   rw[gM];decide+kernel}
 |i+1,hi=>by
  have h:=Ar (z:=z) i aa
  have hq:=DC (d:=z i)
  have h1:=h.len
  obtain⟨c,c1,c2,c3⟩:=h.pw
  have hl:(cq z (i+1)).1=i+1+1:=by
   show(cq z i).1-1+(2-1)+1=_
   omega
  exact {
   len:=hl
   bd:=(IU aa hq h.bd 1 aa).more aa
   pw:=⟨bP c (kZ (iA (dI (z i)))),fun t=>by
    rw[bQ,c1,lZ hq.lo]
    exact(sk t).symm,(wK c2 hq.pw aa (by show 2<=60;decide)).more aa,by show c.1+2+1<=_;omega⟩
   dv:=h.dv.step aa hq ⟨aX,by decide⟩ (by show(cq z (i+1)).1<=30;omega)
   ev:=fun t=>by
    show jd (oP (cq z i) (iA (dI (z i)))) t=3*Go.Am.aq (iK (dI (z i)::ju z i)) t
    rw[sk,h.ev,C1,qV];grind}
theorem Kt {p:PP} (h1:1<=p.1) (h2:p.1<=41) (hb:Bd p 1300):iQ p:=by
 have hW:=de
 refine⟨h1,h2,fun k i hi=>?_,ku (CB hb) aa⟩
 obtain⟨D,d1,d2,d3⟩:=hb
 exact((yR d3 k i hi).sz d1 d2).more aa
theorem C2 {z:Nat->Int}:∀{i:Nat} {a:Rat},a∈ju z i->∃d,a=dI d
 |i+1,a,h=>by
  rcases List.mem_cons.1 (show a∈dI (z i)::ju z i from h)with h|h
  ·exact⟨_,h⟩
  ·exact C2 h
theorem F5 {z:Nat->Int} {i:Nat} {a:Rat} (h:a∈ju z i):0<=a/\a<=1:=by
 obtain⟨d,rfl⟩:=C2 h
 exact aat
theorem M0 {z:Nat->Int}:∀i,(ju z i).length=i
 |0=>rfl
 |i+1=>congrArg (·+1) (M0 i)
theorem wZ {p:PP} (h:1<=p.1) (t:Rat):Go.Am.aq (ak p) t=jd p t:=by
 rw[<-lZ h];exact xY
structure KpG (p:PP) (l:List Rat):Prop where
 of:iQ p
 ne:(ak p).1≠0
 gd:ck (ak p)
 ev:∀t,Go.Am.aq (ak p) t=3*Go.Am.aq (iK l) t
theorem Dt {z:Nat->Int} {i:Nat} (hi:i<=6):KpG (cq z i) (ju z i):=by
 have h:=Ar (z:=z) i hi
 have h1:=h.len
 have ev:∀t,Go.Am.aq (ak (cq z i)) t=3*Go.Am.aq (iK (ju z i)) t:=fun t=>by rw[wZ aa,h.ev]
 have n2:Go.Am.aq (iK (ju z i)) 2≠0:=fun h0=>by
  have:=(F5 (Ax.1 h0)).2
  exact absurd this (by decide)
 have ne:(ak (cq z i)).1≠0:=fun h0=>by
  have:=ev 2
  rw[iB h0]at this
  rcases Rat.mul_eq_zero.1 this.symm with h|h
  ·exact absurd h (by decide)
  ·exact n2 h
 have hle:(ak (cq z i)).1<=(cq z i).1:=fY
 obtain⟨c,c1,c2,c3⟩:=h.pw
 have hb:Bd (ak (cq z i)) (2+26*i):=(show Bd (b9 c) (2+26*i)from cW.short c2 mS).A5 (Cs eW mJ fun t=>by rw[dO,c1,wZ aa])
 refine⟨Kt aa aa (h.bd.more aa),ne,?_,ev⟩
 refine((h.dv ⟨2,fun h0=>?_⟩).of_eq (c':=ak (cq z i)) fun t=>by rw[lZ aa,wZ aa]).gd hi (.inr aa) mJ (Nat.pos_of_ne_zero ne) aa (hb.more aa)
 rw[h.ev]at h0
 rcases Rat.mul_eq_zero.1 h0 with h|h
 ·exact absurd h (by decide)
 ·exact n2 h
theorem Tc {d:Int}:iQ (iA (dI d))/\(ak (iA (dI d))).1≠0/\ck (ak (iA (dI d)))/\∀t,Go.Am.aq (ak (iA (dI d))) t=t-dI d:=by
 have hq:=DC (d:=d)
 have l2:(iA (dI d)).1=2:=rfl
 have ev:∀t,Go.Am.aq (ak (iA (dI d))) t=t-dI d:=fun t=>by rw[wZ hq.lo,C1]
 have ne:(ak (iA (dI d))).1≠0:=fun h0=>by
  have:=ev (dI d+1)
  rw[iB h0]at this
  grind
 have hle:(ak (iA (dI d))).1<=(iA (dI d)).1:=fY
 refine⟨Kt hq.lo aa (hq.bd.more (by decide)),ne,?_,ev⟩
 have hb:Bd (ak (iA (dI d))) 13:=(show Bd (b9 (kZ (iA (dI d)))) 13 from cW.short hq.pw mS)
 have hd:=(tU.one.step (show 1<=1 by decide) hq (show 1<=1/\1<=2 by decide) (by show 1-1+(2-1)+1<=30;decide)) ⟨dI d+1,fun h0=>by
  have h0:jd (oP (1,fun _=>1) (iA (dI d))) (dI d+1)=0:=h0
  rw[sk,C1]at h0
  have h0:(1:Rat)*(dI d+1-dI d)=0:=h0
  grind⟩
 refine(hd.of_eq (c':=ak (iA (dI d))) fun t=>?_).gd (by decide) (.inl (by decide)) mJ (Nat.pos_of_ne_zero ne) aa (hb.more aa)
 show Go.Am.aq (kZ (oP (1,fun _=>1) (iA (dI d)))) t=_
 rw[lZ (by show 1<=1-1+(2-1)+1;decide),sk,wZ hq.lo]
 show(1:Rat)*_=_
 rw[Rat.one_mul]
theorem LB:∀{L:List (Rat×Nat)} {i:Nat},i<L.length->(L.map (·.1)).getD i 0=(eU L i).1
 |_::_,0,_=>rfl
 |_::L,i+1,h=>LB (L:=L) (i:=i) (by rw[List.length_cons]at h;omega)
 |[],i,h=>absurd h (Nat.not_lt_zero i)
theorem Kz:∀{L:List (Rat×Nat)} {i:Nat},i<L.length->eU L i∈L
 |_::_,0,_=>List.mem_cons_self
 |_::L,i+1,h=>List.mem_cons_of_mem _ (Kz (L:=L) (i:=i) (by rw[List.length_cons]at h;omega))
 |[],i,h=>absurd h (Nat.not_lt_zero i)
theorem JF {z:Nat->Int} {n:Nat} (hn:n<=6):(dP cj (cq z n)).length=(dJ z n).length/\∀i,i<(dJ z n).length->j0 (ak (cq z n)) (bN (dP cj (cq z n)) i) (eU (dJ z n) i).1/\Go.Am.aq (ak (cq z n)) (eU (dJ z n) i).1=0/\(eU (dJ z n) i).1∈ju z n/\lN cj (cq z n) i=(eU (dJ z n) i).2:=by
 obtain⟨hof,hne,hc,hev⟩:=Dt (z:=z) hn
 have hg:(ak (cq z n)).1≠0->ck (ak (cq z n)):=fun _=>hc
 have hs:kX (ju z n) (ak (cq z n)):=⟨3,by decide,hev⟩
 have root:∀a,Go.Am.aq (ak (cq z n)) a=0↔a∈ju z n:=fun a=>by
  rw[hev,Rat.mul_eq_zero,<-Ax]
  exact⟨fun h=>h.resolve_left (by decide),.inr⟩
 have hm:Mt (ak (cq z n)) (dP cj (cq z n)) ((dJ z n).map (·.1)):=by
  rw[show dP cj (cq z n)=jT cj (aV (ak (cq z n))) (aS (ak (cq z n)))from if_neg hne]
  exact Xm hc hs C7 (fun a ha=>⟨(F5 (uV.1 ha)).1,(F5 (uV.1 ha)).2,(root a).2 (uV.1 ha)⟩) fun a _ _ ha=>uV.2 ((root a).1 ha)
 have hl:(dP cj (cq z n)).length=(dJ z n).length:=by rw[hm.len,List.length_map]
 refine⟨hl,fun i hi=>?_⟩
 have h1:=hm.at (i:=i) aa
 rw[LB hi]at h1
 have hin:=Kz hi
 have hmem:(eU (dJ z n) i).1∈ju z n:=uV.1 (List.mem_map.2 ⟨_,hin,rfl⟩)
 have hr:=(root _).2 hmem
 have ho:Od (eU (dJ z n) i).1 (eU (dJ z n) i).2 (ak (cq z n)):=by
  obtain⟨w,w1,w2⟩:=HZ (l:=dJ z n) C7 hin
  refine⟨eM 3 w,fun t=>?_,fun h0=>?_⟩
  ·rw[hev,dU,<-LH (l:=ju z n)]
   rw[show Go.Am.aq (l9 (m8 (ju z n))) t=_ from w1 t,<-Rat.mul_assoc,Rat.mul_comm 3,Rat.mul_assoc];rfl
  ·rw[dU]at h0
   rcases Rat.mul_eq_zero.1 h0 with h|h
   ·exact absurd h (by decide)
   ·exact w2 h
 refine⟨h1,hr,hmem,?_⟩
 rw[aet hg aa]
 unfold GC
 rw[uJ hg]
 refine adN hc hs h1 (Nat.pos_of_ne_zero fun h0=>?_) ho
 rw[h0]at ho
 exact ho.zero hr
theorem Ye (w:Int):0<nV w/\1<=nV w*64:=by
 have h1:0<=w%60:=Int.emod_nonneg _ aa
 have h2:w%60<60:=Int.emod_lt_of_pos _ aa
 have hne:((1+w%60:Int):Rat)≠0:=mV aa
 have e:nV w*((1+w%60:Int):Rat)=1:=by unfold nV;rw[Rat.div_mul_cancel hne];rfl
 have g1:=me (show(1:Int)<=1+w%60 by omega)
 have g2:=me (show(1+w%60:Int)<=60 by omega)
 have g1:(1:Rat)<=((1+w%60:Int):Rat):=g1
 have g2:((1+w%60:Int):Rat)<=60:=g2
 generalize ((1+w%60:Int):Rat)=M at*
 generalize nV w=x at*
 have hx:0<x:=by
  refine Decidable.byContradiction fun hn=>?_
  have:=Rat.mul_nonneg (a:=-x) (b:=M) (by grind) (by grind)
  grind
 refine⟨hx,?_⟩
 have:=Rat.mul_nonneg (a:=x) (b:=60-M) (by grind) (by grind)
 grind
theorem aaC {z:Nat->Int} {n i:Nat} (w:Int) (hn:n<=6) (hi:i<(dJ z n).length):wA (cq z n) (bN (dP cj (cq z n)) i) (nV w)/\uN (cq z n) (bN (dP cj (cq z n)) i) (iA (eU (dJ z n) i).1)/\vh (bN (dP cj (cq z n)) i).1 (eU (dJ z n) i).1 (bN (dP cj (cq z n)) i).2=true/\
  kn (cq z n) (bN (dP cj (cq z n)) i) (nV w)=0/\(∀t,vh (ox (cq z n) (bN (dP cj (cq z n)) i) t (nV w)).1.1 (eU (dJ z n) i).1 (ox (cq z n) (bN (dP cj (cq z n)) i) t (nV w)).1.2=true)/\js (cq z n) (bN (dP cj (cq z n)) i)=0/\lW (cq z n) (bN (dP cj (cq z n)) i) (iA (eU (dJ z n) i).1)=0:=by
 obtain⟨hof,hne,hc,hev⟩:=Dt (z:=z) hn
 have hg:(ak (cq z n)).1≠0->ck (ak (cq z n)):=fun _=>hc
 have hs:kX (ju z n) (ak (cq z n)):=⟨3,by decide,hev⟩
 obtain⟨hl,hat⟩:=JF (z:=z) hn
 obtain⟨h1,h2,h3,_⟩:=hat i hi
 obtain⟨d,hd⟩:=C2 h3
 rw[hd]at h1 h2 ⊢
 obtain⟨q1,q2,q3,q4⟩:=Tc (d:=d)
 obtain⟨w0,w1⟩:=Ye w
 have hlen:i<(pF cj (cq z n)).length:=by rw[uJ hg];omega
 have r1:=Xz (w:=nV w) hof hg hlen fun _=>w1
 have r2:=ZY (q:=iA (dI d)) hof q1 hg (fun _=>q3) hlen
 rw[uJ hg]at r1 r2
 have he:kn (cq z n) (bN (dP cj (cq z n)) i) (nV w)=0:=by
  unfold kn
  rw[if_neg (by grind),if_neg hne,h1.fits h2];rfl
 obtain⟨s1,s2⟩:=acn (q:=iA (dI d)) hc q2 h1 h2 (by rw[q4];grind)
 refine⟨r1,r2,decide_eq_true h1.le,he,fun t=>?_,s1,s2⟩
 unfold ox
 rw[if_pos he]
 exact decide_eq_true (h1.rf hc hs h2 (by grind) 200).le
end Go.Am.B
