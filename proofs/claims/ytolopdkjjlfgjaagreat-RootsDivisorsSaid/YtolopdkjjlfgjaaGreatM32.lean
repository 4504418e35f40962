/- brepkernellaw06.RootsDivisors. -/
import Derived.Test.YtolopdkjjlfgjaaGreatM31
import Derived.Test.YtolopdkjjlfgjaaGreatY42
set_option linter.unusedVariables false
namespace Go.Am.B
open Go Go.Am.N AV af aq IntKind Proofs.Tryz
theorem aaB:aX 6 f6:=aY func6
def JN:Spec:=dL (kC (kL ah) (kC (kL ah) kN)) (fun a=>.tuple [aP (dy a.1 a.2.1),.int .i64 0]) fun a=>[qS a.1 a.2.1]
noncomputable def Gx:bg:=nG::(11,LM)::(12,MT)::(14,E4)::(13,kW Bq)::(28,kW ze)::(29,abM)::(21,EK)::(30,Gi)::(31,JN)::(33,A7)::(32,IK)::(34,Ia)::(35,TS)::[]
abbrev zu (c:PP):Prop:=dc (fun i=>.rat (c.2 i) 64) c.1 ah
abbrev zO:af (List AV):=leaf ret [AV.bool true]
def CM (p q c X Y g s t u:PP):af (List AV):=aj [aR p,zu c,qS p c] (aj [aR q,zu c,qS q c] (aj [aR X,aR Y,ej X,ej Y,j9 (aC X,aC Y),jq (cG (aC X) (aC Y))] (aj [zu c,c.1<2^40] (fork (gL c) (aj [aR g,g.1<2^40,gL g=true,(bif true then(g.1:Int)==1 else false)=true] zO)
 (aj [aR X,aR g,ej X,ej g,mS X g] (aj [aR Y,aR g,ej Y,ej g,mS Y g] (aj [aR g,zu c,ej g,ej c,mS g c] (aj [(zE (aC g).1==(0:Int))=true,(bif true then zE (aC g).1==(0:Int)else false)=true,(bif true then zE (aC c).1==(0:Int)else false)=true,
  aR s,s.1<2^40,(bif true then gL s else false)=true,aR t,t.1<2^40,(bif true then gL t else false)=true,aR u,u.1<2^40,(bif true then gL u else false)=true] zO))))))))
def KS (p q c a r M S:PP) (x:af (List AV)):af (List AV):=aj [aR p,aR q,ej p,ej q,mS p q] (aj [aR q,q.1<2^40] (fork (gL q) (aj [(zE (aC q).1==(3:Int))=true] zO) (aj [(zE (aC q).1!=(0:Int))=false,aR a,1<=a.1,a.1<=41,(bif false then true else !true)=false,aR r,1<=r.1,r.1<=41] (aj [(bif false then true else !true)=false] (aj [aR a,aR q,qS a q]
 (fork (!gL r) (aj [((0:Int)!=0)=false,aR M,aR r,1<=M.1,1<=r.1,M.1<=41,r.1<=41,iQ M.1 M.2 (max M.1 r.1-M.1),iQ r.1 r.2 (max M.1 r.1-r.1),cu (max M.1 r.1) S.2,aR S,aR p,ov S p,(bif false then true else !gL (jK S p))=false,aR r,r.1<2^40,(!gL r)=true,aR q,ej q,jq (aC q)]
   (aj [(bif false then true else bif true then decide ((r.1:Int)>=(fP (aC q).1:Nat))else false)=false] x))
  (aj [((0:Int)!=0)=false,aR M,aR r,1<=M.1,1<=r.1,M.1<=41,r.1<=41,iQ M.1 M.2 (max M.1 r.1-M.1),iQ r.1 r.2 (max M.1 r.1-r.1),cu (max M.1 r.1) S.2,aR S,aR p,ov S p,(bif false then true else !gL (jK S p))=false,aR r,r.1<2^40,(!gL r)=false] (aj [(bif false then true else false)=false] x))))))))
def A2 (p q c:PP):af (List AV):=KS p q c (jL p q) (gu p q) (dy (jL p q) q) (g9 (dy (jL p q) q) (gu p q))
 (CM p q c (dy p c) (dy q c) (lI (dy p c) (dy q c)) (gu (dy p c) (lI (dy p c) (dy q c))) (gu (dy q c) (lI (dy p c) (dy q c))) (gu (lI (dy p c) (dy q c)) c))
theorem Y7 {n:Nat} {z:Nat->Int}:bT T Gx [28,46,100049,200054,200059,200063,200072,200080,84,200092,109,100112,100117,100143,100147,100151,100155,100159,100163] 60 f6 (aG f6) ⟨aS 0 [.ak 1 n fun i=>.int .i64 (z i)],[],0⟩=
  some (fork (!decide ((n:Int)<=500)) zO (aj [cL n (fun i=>int i64 (z i)) (0:Int),vh n (fun i=>int i64 (z i)) (0:Int),cL n (fun i=>int i64 (z i)) (js n (fun i=>int i64 (z i)) 0),vh n (fun i=>int i64 (z i)) (js n (fun i=>int i64 (z i)) 0),cL n (fun i=>int i64 (z i)) (js n (fun i=>int i64 (z i)) (js n (fun i=>int i64 (z i)) 0)),(0:Int)<=2,(2:Int)<900]
   (A2 (sN n (fun i=>int i64 (z i)) 0) (sN n (fun i=>int i64 (z i)) (js n (fun i=>int i64 (z i)) 0)) (mI n (fun i=>int i64 (z i)) (js n (fun i=>int i64 (z i)) (js n (fun i=>int i64 (z i)) 0)) 2,oA n (fun i=>int i64 (z i)) (js n (fun i=>int i64 (z i)) (js n (fun i=>int i64 (z i)) 0)))))):=ag
theorem Wr:bf P JN 31:=dF fun⟨⟨m,p⟩,⟨n,q⟩,_⟩ K hn=>by
 obtain⟨h1,h2,h3,h4⟩:=hn
 have h1:1<=m:=h1
 have h2:1<=n:=h2
 have h3:m+n<=42:=h3
 obtain⟨m,rfl⟩:∃x,m=x+1:=⟨m-1,aa⟩
 obtain⟨n,rfl⟩:∃x,n=x+1:=⟨n-1,aa⟩
 exact MW aa h4 K
theorem aeo:bK P Gx:=gW (aK Ow (aK Zk (aK T7 (aK aea (aK LG (aK (dF fun⟨_,_,_⟩ K hn=>NJ hn.1 hn.2.1 hn.2.2 K) (aK JX (aK VN (aK Wr (aK Jm (aK PO (aK Uz (aK (dF fun⟨_,_,_⟩ K hn=>adn hn.1 hn.2.1 hn.2.2.1 hn.2.2.2 K) bU)))))))))))))
theorem iE {q:PP} (h:1<=q.1) (t:Rat):bN (aC q) t=dN q t:=by
 rw[<-vO h];exact sZ
theorem gU {q:PP}:Trim (aC q):=lJ
theorem Aq (n:Nat):1<=fP n:=by unfold fP;split<;>omega
theorem Dd {a:PP} (t:Rat):dN (fF a) t=bN a t:=by
 show cs (fP a.1-1) (mJ a.1 a.2) t=_
 by_cases h0:a.1=0
 ·rw[iN h0]
  unfold fP mJ
  rw[if_pos h0]
  show(if a.1=0 then(0:Rat)else _)=0
  rw[if_pos h0]
 ·unfold fP
  rw[if_neg h0,show mJ a.1 a.2=ec a.1 a.2 from funext fun i=>if_neg h0]
  obtain⟨m,hm⟩:∃m,a.1=m+1:=⟨a.1-1,aa⟩
  show cs (a.1-1) (ec a.1 a.2) t=ev a.1 a.2 t
  rw[hm];exact WM
theorem Nk {a:PP} (ha:Trim a):jg (aC (fF a)) a:=DW gU ha fun t=>by rw[iE (Aq _),Dd]
theorem uq {a:PP} (ha:Trim a) (h:∀t,bN a t=0):a.1=0:=by
 have h1:=ve (b:=(0,fun _=>0)) ha (qp fun t=>by rw[h,iN rfl])
 exact Nat.le_zero.1 h1
theorem yl {q:PP} (h:1<=q.1):gL q=true↔(aC q).1=0:=by
 constructor
 ·intro h1
  refine uq gU fun t=>?_
  rw[iE h,Va h (of_decide_eq_true h1:∀i,i<q.1->q.2 i=0)]
 ·intro h1
  exact decide_eq_true (KI fun t=>by rw[<-iE h,iN h1])
theorem Cl {a:PP} (ha:a.1=0):gL (fF a)=true:=decide_eq_true fun i hi=>if_pos ha
theorem Wx {a:PP} (ha:Trim a) (h:gL (fF a)=false):(fF a).1=a.1/\a.1≠0:=by
 have h0:a.1≠0:=fun h0=>by rw[Cl h0]at h;cases h
 exact⟨if_neg h0,h0⟩
theorem abS {d a:PP} (h:Dv d a) (h0:0<d.1) (td:Trim d):(dP a d).1=0:=by
 have h1:=mA (a:=a) h0 td
 have h2:=h.rem h0 (Dv.refl d)
 rcases Nat.eq_zero_or_pos (dP a d).1 with h3|h3
 ·exact h3
 ·have:=h2.len h3 qA td;omega
theorem Zz {d d' a:PP} (h:Dv d a) (e:∀t,bN d' t=bN d t):Dv d' a:=h.imp fun w hw t=>by rw[hw,e]
theorem Ag {m k s:Nat} {p:Nat->Rat} (h1:1<=m) (h:cq m p s) (hk:m+k<=63) (hs:2*(s+6*k)+2<=ah):iQ m p k:=fun j hj=>kI (DJ h1 h j aa) aa
theorem Ex {p q:PP} {s t:Nat} (hp:1<=p.1) (hq:1<=q.1) (lp:p.1<=13) (lq:q.1<=13) (hb:Bd p s) (hc:Bd q t) (hs:s+t<=10000):qS p q/\Bd (dy p q) (s+t+650):=by
 have hW:=dg
 have hb2:cq (p.1-1+1) p.2 s:=by rw[show p.1-1+1=p.1 by omega];exact hb
 have hb3:cq (q.1-1+1) q.2 t:=by rw[show q.1-1+1=q.1 by omega];exact hc
 have h5:p.1-1+(q.1-1)<=24:=aa
 have h6:(p.1-1+(q.1-1)+1)*(p.1-1+(q.1-1))<=25*24:=Nat.mul_le_mul aa h5
 have hm:=Bo aa hb2 hb3
 exact⟨⟨hp,hq,aa,fun i j k hi hj hk=>(LO aa hb2 hb3 hi hj).more aa,fun k hk=>(hm.sz hk).more aa⟩,hm.more aa⟩
theorem z7 {p:PP} {s:Nat} (h1:1<=p.1) (h2:p.1<=41) (hb:Bd p s) (hs:2*(s+82)+2<=ah):ej p:=by
 refine⟨h1,h2,fun k i hi=>?_,kI (zn hb) aa⟩
 obtain⟨D,d1,d2,d3⟩:=hb
 exact((uN d3 k i hi).sz d1 d2).more aa
theorem DG {a:PP} {s:Nat} (h:Bd a s):Bd (fF a) (s+a.1*a.1+2*a.1):=by
 show cq (fP a.1) (mJ a.1 a.2) _
 by_cases h0:a.1=0
 ·exact⟨1,by decide,Nat.one_le_two_pow,fun i _=>by rw[show mJ a.1 a.2 i=0 from if_pos h0];exact .zero⟩
 ·rw[show fP a.1=a.1 from if_neg h0,show mJ a.1 a.2=ec a.1 a.2 from funext fun i=>if_neg h0]
  exact Di h
theorem G5 {p q:PP} {s t:Nat} (hp:1<=p.1) (hq:1<=q.1) (lp:p.1<=30) (lq:q.1<=30) (h:Bd p s) (h':Bd q t):Bd (g9 p q) (s+t+361):=by
 have m1:=Nat.le_max_left p.1 q.1
 have m2:=Nat.le_max_right p.1 q.1
 have mm:max p.1 q.1<=30:=Nat.max_le.2 ⟨lp,lq⟩
 have e:∀{x:PP} {s:Nat},1<=x.1->x.1<=max p.1 q.1->Bd x s->cq (max p.1 q.1) (nr x (max p.1 q.1)).2 (s+180):=fun {x s} hx hl hb=>by
  have:=DJ hx hb (max p.1 q.1-x.1) aa
  rw[show x.1+(max p.1 q.1-x.1)=max p.1 q.1 by omega]at this
  exact this.more aa
 exact cq.more (aad (e hp m1 h) (e hq m2 h')) aa
theorem Tr {p q:PP} {s t:Nat} (hp:1<=p.1) (hq:1<=q.1) (lp:p.1<=30) (lq:q.1<=30) (h:Bd p s) (h':Bd q t) (hs:s<=20000) (ht:t<=20000):ov p q:=by
 have hW:=dg
 have m1:=Nat.le_max_left p.1 q.1
 have m2:=Nat.le_max_right p.1 q.1
 have mm:max p.1 q.1<=30:=Nat.max_le.2 ⟨lp,lq⟩
 have hq2:Bd (jI ((-1:Int):Rat) q) t:=RP h'
 have hb:cq (max p.1 q.1) (jK p q).2 (s+t+361):=G5 (q:=jI ((-1:Int):Rat) q) hp hq lp lq h hq2
 exact⟨hp,hq,aa,aa,kI hq2 aa,Ag hp h aa aa,Ag hq hq2 aa aa,kI hb aa⟩
theorem aeh {n:Nat} {f:Nat->AV} {a:Int}:mB (mI n f a 2,oA n f a):=by
 have u1:=iY (n:=n) (f:=f) (a:=a) (m:=2+1) aa
 have u2:=ja (n:=n) (f:=f) (a:=a) (m:=2+1) aa
 exact⟨Nat.succ_pos _,by show(cz n f a (2+1)).toNat+1<=3;omega,Lm⟩
theorem Yk {n:Nat} (h:n=0):zE n=3:=if_pos h
theorem xB {n:Nat} (h:n≠0):zE n=0:=if_neg h
theorem dvd_zero {p q:PP} (h0:(aC q).1≠0) (hd:Dv (aC q) (aC p)):(gu p q).1<2^40/\gL (gu p q)=true:=by
 have hz:=abS hd (Nat.pos_of_ne_zero h0) gU
 unfold gu
 rw[if_neg h0]
 exact⟨by show fP _<_;rw[hz];decide,Cl hz⟩
theorem TV {p q c:PP} (hp:iR p) (hq:iR q) (hc:mB c) (hq0:(aC q).1≠0) {R:aq->List AV->Prop} (hR:R .ret [AV.bool true]):
  (CM p q c (dy p c) (dy q c) (lI (dy p c) (dy q c)) (gu (dy p c) (lI (dy p c) (dy q c))) (gu (dy q c) (lI (dy p c) (dy q c))) (gu (lI (dy p c) (dy q c)) c)).all R:=by
 have hW:=dg
 have hlc:=hc.hi
 obtain⟨mx1,bx⟩:=Ex hp.lo hc.lo hp.hi aa hp.bd hc.bd aa
 obtain⟨my1,bY⟩:=Ex hq.lo hc.lo hq.hi aa hq.bd hc.bd aa
 have ex:∀t,dN (dy p c) t=dN p t*dN c t:=fun t=>sJ t
 have ey:∀t,dN (dy q c) t=dN q t*dN c t:=fun t=>sJ t
 have lx:1<=(dy p c).1/\(dy p c).1<=15:=by have:=hp.hi;have:=hp.lo;have:=hc.lo;exact⟨Nat.succ_pos _,by show p.1-1+(c.1-1)+1<=15;omega⟩
 have ly:1<=(dy q c).1/\(dy q c).1<=15:=by have:=hq.hi;have:=hq.lo;have:=hc.lo;exact⟨Nat.succ_pos _,by show q.1-1+(c.1-1)+1<=15;omega⟩
 generalize dy p c=X at*
 generalize dy q c=Y at*
 have bd:∀{r Z:PP},iR r->1<=Z.1->Z.1<=15->(∀t,dN Z t=dN r t*dN c t)->Bd (aC Z) 182/\(aC Z).1<=15:=fun {r Z} hr h1 h2 e=>by
  have hpw:=hc.pw
  have hb:=EM hr.gd.bd hpw (by have:=hr.gd.len;omega) (by show c.1<=60;omega)
  have hb2:Bd (gV (fh (aC r) (iD c))) (156+13+13):=cq.short hb vw
  refine⟨hb2.CL (DW nI gU fun t=>?_),Nat.le_trans eP h2⟩
  rw[mH,jb,iE h1,e,vO hc.lo,iE hr.lo]
 obtain⟨x1,x2⟩:=bd hp lx.1 lx.2 ex
 obtain⟨y1,y2⟩:=bd hq ly.1 ly.2 ey
 have oX:ej X:=z7 lx.1 aa bx aa
 have oY:ej Y:=z7 ly.1 aa bY aa
 have oC:ej c:=z7 hc.lo aa hc.bd aa
 have hX:2*((15+1)*(2*(182+1)*3^(15-1)))+2<=ah:=by rw[hW];decide
 have gx:j9 (aC X,aC Y):=D0 gU gU x2 y2 aa x1 y1 hX
 obtain⟨B,b1,b2⟩:=Cr (M:=15) gU gU x2 y2 x1 y1
 have tG:Trim (cG (aC X) (aC Y)):=nH gU gU
 have lG:(cG (aC X) (aC Y)).1<=15:=v9 (s:=(aC X,aC Y)) x2 y2 gU gU _
 obtain⟨dX,dY⟩:=Fo (a:=aC X) (b:=aC Y) gU gU
 have dC:∀h,Dv h (aC X)->Dv h (aC Y)->Dv h (cG (aC X) (aC Y)):=fun h h1 h2=>EI h1 h2
 have p1:(aC Y).1≠0->0<(cG (aC X) (aC Y)).1:=fun h=>by
  rcases Nat.eq_zero_or_pos (cG (aC X) (aC Y)).1 with h0|h0
  ·exact absurd (uq gU fun t=>by obtain⟨w,hw⟩:=dY;rw[hw,iN h0,Rat.zero_mul]) h
  ·exact h0
 have z1:(aC X).1=0->(aC Y).1=0->(cG (aC X) (aC Y)).1=0:=fun h1 h2=>uq tG fun t=>by
  obtain⟨w,hw⟩:=EI (h:=(0,fun _=>0)) (a:=aC X) (b:=aC Y) ⟨kz,fun t=>by rw[iN h1,iN rfl,Rat.zero_mul]⟩ ⟨kz,fun t=>by rw[iN h2,iN rfl,Rat.zero_mul]⟩
  rw[hw,iN rfl,Rat.zero_mul]
 have hb0:B<=2*(182+1)*3^15:=by
  have:=Nat.mul_le_mul_left (2*(182+1)) (sF (show 15-(cG (aC X) (aC Y)).1<=15 by omega))
  omega
 have hb1:0<(cG (aC X) (aC Y)).1->B+1<=1750566654:=fun h=>by
  have:=Nat.mul_le_mul_left (2*(182+1)) (sF (show 15-(cG (aC X) (aC Y)).1<=14 by omega))
  omega
 have gg:lI X Y=fF (cG (aC X) (aC Y)):=rfl
 rw[gg]
 unfold CM
 generalize cG (aC X) (aC Y)=G at*
 have mG:=Nat.mul_le_mul lG lG
 have pG:jq G:=tu b2 aa aa
 have lg:(fF G).1<2^40/\1<=(fF G).1/\(fF G).1<=41:=by
  have:fP G.1<=15:=by unfold fP;split<;>omega
  exact⟨by show fP G.1<_;omega,Aq _,by show fP G.1<=41;omega⟩
 simp only[af.all,az,cond_true]
 have lc0:c.1<2^40:=aa
 refine⟨⟨cR,cZ aa,mx1⟩,⟨cR,cZ aa,my1⟩,⟨cR,cR,oX,oY,gx,pG⟩,⟨cZ aa,lc0⟩,fun hz=>⟨⟨cR,lg.1,?_⟩,hR⟩,fun hz=>?_⟩
 ·have hcz:∀t,dN c t=0:=fun t=>by rw[<-iE hc.lo,iN ((yl hc.lo).1 hz)]
  have g0:=z1 (uq gU fun t=>by rw[iE lx.1,ex,hcz,Rat.mul_zero]) (uq gU fun t=>by rw[iE ly.1,ey,hcz,Rat.mul_zero])
  refine⟨Cl g0,?_⟩
  show((fP G.1:Nat):Int)==1
  unfold fP;rw[if_pos g0];rfl
 ·have hc0:(aC c).1≠0:=fun h=>by rw[(yl hc.lo).2 h]at hz;cases hz
  have hY0:(aC Y).1≠0:=fun h=>by
   obtain⟨_,_,h3⟩:=(⟨0,0,trivial⟩:∃_ _:Nat,True)
   have e:∀t,bN (fh (aC q) (aC c)) t=0:=fun t=>by rw[jb,iE hq.lo,iE hc.lo,<-ey,<-iE ly.1,iN h]
   have h1:=IT (a:=aC q) (b:=aC c) aa aa gU gU
   exact h1 (by rw[qp (b:=(0,fun _=>0)) (fun t=>by rw[e,iN rfl])];rfl)
  have hG:=p1 hY0
  have hB:=hb1 hG
  have eG:=Nk tG
  have g1:(aC (fF G)).1=G.1:=eG.1
  have bG:Bd (aC (fF G)) B:=b2.CL eG.symm
  have og:ej (fF G):=z7 lg.2.1 lg.2.2 (DG b2) aa
  have bC:Bd (aC c) 13:=cq.short hc.pw eP
  have dv:∀{a d:PP},Trim d->0<d.1->Bd a 1750566653->Bd d 1750566653->a.1<=15->nD a d/\jq (gD a d)/\jq (dP a d):=fun {a d} td d0 ba bd la=>by
   have hM:a.1-(d.1-1)<=15:=aa
   obtain⟨r1,r2⟩:=sO ba bd d0 td hM
   have lr:(dP a d).1<=15:=Nat.le_trans (show bO _ _<=a.1 from eP) la
   have lq:(gD a d).1<=15:=Nat.le_trans (show bO _ _<=_ from eP) hM
   have m1:=Nat.mul_le_mul lr lr
   have m2:=Nat.mul_le_mul lq lq
   exact⟨wQ ba bd d0 td hM aa,tu r2 aa aa,tu r1 aa aa⟩
  have d1:mS X (fF G):=fun h=>dv gU aa (x1.more aa) (bG.more aa) x2
  have d2:mS Y (fF G):=fun h=>dv gU aa (y1.more aa) (bG.more aa) y2
  have d3:mS (fF G) c:=fun h=>dv gU aa (bG.more aa) (bC.more aa) aa
  have vG:∀{a:PP},Dv G a->Dv (aC (fF G)) a:=fun h=>Zz h fun t=>eG.ev t
  have vC:Dv (aC c) (aC (fF G)):=by
   have k1:Dv (aC c) (aC X):=⟨aC p,fun t=>by rw[iE lx.1,ex,iE hc.lo,iE hp.lo,Rat.mul_comm]⟩
   have k2:Dv (aC c) (aC Y):=⟨aC q,fun t=>by rw[iE ly.1,ey,iE hc.lo,iE hq.lo,Rat.mul_comm]⟩
   exact(dC _ k1 k2).of_eq fun t=>(eG.ev t).symm
  obtain⟨s1,s2⟩:=dvd_zero (p:=X) (q:=fF G) aa (vG dX)
  obtain⟨t1,t2⟩:=dvd_zero (p:=Y) (q:=fF G) aa (vG dY)
  obtain⟨u1,u2⟩:=dvd_zero (p:=fF G) (q:=c) hc0 vC
  exact⟨⟨cR,cR,oX,og,d1⟩,⟨cR,cR,oY,og,d2⟩,⟨cR,cZ aa,og,oC,d3⟩,⟨by rw[xB aa];rfl,by rw[xB aa];rfl,by rw[xB hc0];rfl,cR,s1,s2,cR,t1,t2,cR,u1,u2⟩,hR⟩
theorem Ym {p q c:PP} (hp:iR p) (hq:iR q) (hc:mB c) {R:aq->List AV->Prop} (hR:R .ret [AV.bool true]):(A2 p q c).all R:=by
 have hW:=dg
 have lq0:q.1<2^40:=by have:=hq.hi;omega
 have D:=ZG hp hq
 obtain⟨l1,l2⟩:=X4 hp hq
 unfold A2 KS
 simp only[af.all,az,cond_true,cond_false]
 refine⟨⟨cR,cR,hp.of,hq.of,D⟩,⟨cR,lq0⟩,fun hz=>⟨by rw[Yk ((yl hq.lo).1 hz)];rfl,hR⟩,fun hz=>?_⟩
 have hq0:(aC q).1≠0:=fun h=>by rw[(yl hq.lo).2 h]at hz;cases hz
 have hB:=TV hp hq hc hq0 hR
 have hR13:(aC p).1-((aC q).1-1)<=13:=by have:=hp.gd.len;omega
 obtain⟨r1,r2⟩:=sO hp.gd.bd hq.gd.bd (hq.pos hq0) hq.gd.tr hR13
 have lr:(dP (aC p) (aC q)).1<=13:=Nat.le_trans (show bO _ _<=(aC p).1 from eP) hp.gd.len
 have lq:(gD (aC p) (aC q)).1<=13:=Nat.le_trans (show bO _ _<=_ from eP) hR13
 have ea:jL p q=fF (gD (aC p) (aC q)):=if_neg hq0
 have er:gu p q=fF (dP (aC p) (aC q)):=if_neg hq0
 have hlt:=mA (a:=aC p) (hq.pos hq0) hq.gd.tr
 have m1:=Nat.mul_le_mul lr lr
 have m2:=Nat.mul_le_mul lq lq
 have ba:Bd (jL p q) 2400:=by rw[ea];exact(DG r2).more aa
 have br:Bd (gu p q) 2400:=by rw[er];exact(DG r1).more aa
 have a1:1<=(jL p q).1/\(jL p q).1<=13:=by rw[ea];exact⟨Aq _,by show fP _<=13;unfold fP;split<;>omega⟩
 have a2:1<=(gu p q).1/\(gu p q).1<=13:=by rw[er];exact⟨Aq _,by show fP _<=13;unfold fP;split<;>omega⟩
 have hev:∀t,dN (jL p q) t*dN q t+dN (gu p q) t=dN p t:=fun t=>by
  rw[ea,er,Dd,Dd,<-iE hq.lo,<-iE hp.lo]
  exact(Ar (hq.pos hq0) t).symm
 have hzr:gL (gu p q)=false->((gu p q).1:Int)<(fP (aC q).1:Nat):=fun h=>by
  rw[er]at h ⊢
  obtain⟨e1,e2⟩:=Wx qA h
  have:fP (aC q).1=(aC q).1:=if_neg hq0
  omega
 generalize jL p q=a at*
 generalize gu p q=r at*
 obtain⟨mx,bM⟩:=Ex a1.1 hq.lo a1.2 hq.hi ba hq.bd aa
 have eM:∀t,dN (dy a q) t=dN a t*dN q t:=fun t=>sJ t
 have lM:1<=(dy a q).1/\(dy a q).1<=25:=by have:=hq.hi;have:=hq.lo;exact⟨Nat.succ_pos _,by show a.1-1+(q.1-1)+1<=25;omega⟩
 generalize dy a q=M at*
 have bS:=G5 lM.1 a2.1 aa aa bM br
 have eS:∀t,dN (g9 M r) t=dN p t:=fun t=>by rw[E8 lM.1 a2.1,eM,hev]
 have mm:max M.1 r.1<=25:=Nat.max_le.2 ⟨lM.2,aa⟩
 have m3:=Nat.le_max_left M.1 r.1
 have m4:=Nat.le_max_right M.1 r.1
 have lS:1<=(g9 M r).1/\(g9 M r).1<=25:=⟨Nat.le_trans lM.1 m3,mm⟩
 have k1:iQ M.1 M.2 (max M.1 r.1-M.1):=Ag lM.1 bM aa aa
 have k2:iQ r.1 r.2 (max M.1 r.1-r.1):=Ag a2.1 br aa aa
 have k3:cu (max M.1 r.1) (g9 M r).2:=kI bS aa
 have k4:ov (g9 M r) p:=Tr lS.1 hp.lo aa (by have:=hp.hi;omega) bS hp.bd aa aa
 have k5:gL (jK (g9 M r) p)=true:=decide_eq_true (KI fun t=>by rw[Yc lS.1 hp.lo,eS];exact Rat.sub_self)
 generalize g9 M r=S at*
 have pq:jq (aC q):=tu (hq.gd.bd) (by have:=hq.gd.len;omega) (by have:=hq.gd.len;have:=Nat.mul_le_mul hq.gd.len hq.gd.len;omega)
 refine⟨⟨by rw[xB hq0];rfl,cR,a1.1,aa,(by first|rfl|trivial),cR,a2.1,aa⟩,(by first|rfl|trivial),⟨cR,cR,mx⟩,fun hr=>⟨⟨(by first|rfl|trivial),cR,cR,lM.1,a2.1,aa,aa,k1,k2,k3,cR,cR,k4,by rw[k5];rfl,cR,aa,hr,cR,hq.of,pq⟩,?_,hB⟩,fun hr=>⟨⟨(by first|rfl|trivial),cR,cR,lM.1,a2.1,aa,aa,k1,k2,k3,cR,cR,k4,by rw[k5];rfl,cR,aa,hr⟩,(by first|rfl|trivial),hB⟩⟩
 have:=hzr (by simpa using hr)
 exact decide_eq_false aa
theorem ND {n:Nat} {z:Nat->Int} (K:Nat):aO P 6 K [.ak 1 n (fun i=>.int .i64 (z i))] [] (aJ (.bool true) []):=by
 refine bW (r:=aJ (.bool true) []) hT aeo hm aaB rfl aW rfl 60 Y7 (fun _=>?_) K []
 have hp:=Jx (n:=n) (f:=fun i=>.int .i64 (z i)) (a:=0)
 have hq:=Jx (n:=n) (f:=fun i=>.int .i64 (z i)) (a:=js n (fun i=>.int .i64 (z i)) 0)
 have hc:=aeh (n:=n) (f:=fun i=>.int .i64 (z i)) (a:=js n (fun i=>.int .i64 (z i)) (js n (fun i=>.int .i64 (z i)) 0))
 have hd:∀a,cL n (fun i=>AV.int .i64 (z i)) a->cL n (fun i=>AV.int .i64 (z i)) (js n (fun i=>.int .i64 (z i)) a):=fun a h=>h.eI _
 simp only[af.all,az,Bool.not_eq_true',bE,Bool.not_eq_false',bz]
 refine⟨fun _=>.refl _,fun h=>?_⟩
 have h0:cL n (fun i=>AV.int .i64 (z i)) 0:=⟨fun i=>rfl,aa,aa,aa⟩
 exact⟨⟨h0,M7,hd _ h0,M7,hd _ (hd _ h0),aa,aa⟩,Ym hp hq hc (.refl _)⟩
end Go.Am.B
