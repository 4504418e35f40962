/- What divides a product of short factors is short. -/
import Derived.Test.YtolopdkjjlfgjaaGreatY40
import Derived.Test.YtolopdkjjlfgjaaGreatZ2
set_option linter.unusedVariables false
noncomputable section
namespace Go.Am
theorem acV {y:Rat} {b c:Int} (h:y*y+(b:Rat)*y+(c:Rat)=0):y.den=1:=by
 have hd:((y.den:Int):Rat)≠0:=qw (D:=(y.den:Int)) (by have:=y.den_pos;omega)
 have e1:y*((y.den:Int):Rat)=(y.num:Rat):=by
  have:=Rat.num_divInt_den y
  rw[Rat.divInt_eq_div]at this
  have h2:=Rat.div_mul_cancel (a:=(y.num:Rat)) hd
  rwa [this]at h2
 have e2:(y.num:Rat)*(y.num:Rat)+(b:Rat)*(y.num:Rat)*((y.den:Int):Rat)+(c:Rat)*((y.den:Int):Rat)*((y.den:Int):Rat)=0:=by
  rw[<-e1]
  generalize ((y.den:Int):Rat)=d at*
  have:y*d*(y*d)+(b:Rat)*(y*d)*d+(c:Rat)*d*d=d*d*(y*y+(b:Rat)*y+(c:Rat)):=by grind
  rw[this,h,Rat.mul_zero]
 have e3:y.num*y.num+b*y.num*(y.den:Int)+c*(y.den:Int)*(y.den:Int)=0:=by
  have:((y.num*y.num+b*y.num*(y.den:Int)+c*(y.den:Int)*(y.den:Int):Int):Rat)=((0:Int):Rat):=by
   rw[Rat.intCast_add,Rat.intCast_add,Rat.intCast_mul,Rat.intCast_mul,Rat.intCast_mul,Rat.intCast_mul,Rat.intCast_mul];exact e2
  exact_mod_cast this
 have e4:(y.den:Int)∣y.num*y.num:=⟨-(b*y.num+c*y.den),by grind⟩
 have e5:y.den∣y.num.natAbs*y.num.natAbs:=by
  have:=Int.natAbs_dvd_natAbs.2 e4
  rwa [Int.natAbs_mul,Int.natAbs_natCast]at this
 have e6:Nat.Coprime y.den y.num.natAbs:=Nat.Coprime.symm y.reduced
 have e7:=Nat.Coprime.dvd_of_dvd_mul_left e6 e5
 exact e6.eq_one_of_dvd e7
theorem agw:(1:Rat)⁻¹=1:=by decide+kernel
theorem Eo {q d:PP} (hb:Bd q 13) (tq:Trim q) (q0:0<q.1) (lq:q.1<=3) (td:Trim d) (d0:0<d.1) (d1:d.2 (d.1-1)=1) (hd:Dv d q):Bd d 27/\d.1<=3:=by
 have hl:=hd.len q0 tq td
 refine⟨?_,aa⟩
 have one:∀s,bZ 1 s 1:=fun s=>⟨1,(Rat.one_mul _).symm,Nat.one_le_two_pow⟩
 rcases(show d.1=1\/d.1=q.1\/(d.1=2/\q.1=3) by omega)with h|h|⟨h,h'⟩
 ·refine⟨1,by decide,Nat.one_le_two_pow,fun i hi=>?_⟩
  obtain rfl:i=0:=aa
  rw[h]at d1
  rw[show d.2 0=1 from d1];exact one _
 ·obtain⟨w,hw⟩:=hd
  have hw1:(cA w).1=1:=by
   have:=(qZ (b:=cA w) (fun t=>by rw[hw,fj]) q0 tq td gk).2.2
   have:=(qZ (b:=cA w) (fun t=>by rw[hw,fj]) q0 tq td gk).2.1
   omega
  have e:∀t,aK q t=w.2 0*aK d t:=fun t=>by
   rw[hw,<-fj (a:=w)]
   show _*ev (cA w).1 w.2 t=_
   rw[hw1]
   show _*(0+w.2 0*t^0)=_
   rw[Rat.pow_zero];grind
  have hl0:w.2 0≠0:=fun h0=>by
   have:=tK tq fun t=>by rw[e,h0,Rat.zero_mul]
   omega
  have hp:gv q (iA (w.2 0) d):=B8 tq (yH td hl0) fun t=>by rw[e,gT]
  have hs:l8 q d:=⟨w.2 0,hl0,h.symm,fun i hi=>hp.2 i hi⟩
  have h2:gv (dI d) d:=⟨rfl,fun i _=>by show d.2 i/d.2 (d.1-1)=d.2 i;rw[d1,Rat.div_def,agw,Rat.mul_one]⟩
  exact((hb.cL tq).Dk (hs.cL.trans h2)).more aa
 ·obtain⟨D,hD,hD2,hz⟩:=hb
  obtain⟨z0,a0,b0⟩:=hz 0 aa
  obtain⟨z1,a1,b1⟩:=hz 1 aa
  obtain⟨z2,a2,b2⟩:=hz 2 aa
  have hq2:q.2 2≠0:=by rcases tq with h3|h3;omega;rw[h']at h3;exact h3
  have hDr:=qw hD
  have hz2:z2≠0:=fun h0=>by
   rw[h0]at a2
   rcases Rat.mul_eq_zero.1 (show q.2 2*(D:Rat)=0 from a2.symm)with h3|h3
   ·exact hq2 h3
   ·exact hDr h3
  obtain⟨w,hw⟩:=hd
  have ed:∀t,aK d t=d.2 0+t:=fun t=>by
   show ev d.1 d.2 t=_
   rw[h]at d1 ⊢
   show 0+d.2 0*t^0+d.2 1*t^1=_
   rw[show d.2 1=1 from d1,Rat.pow_succ,Rat.pow_zero];grind
  have eq0:aK q (-d.2 0)=0:=by rw[hw,ed];grind
  have eq1:q.2 0+q.2 1*(-d.2 0)+q.2 2*(d.2 0*d.2 0)=0:=by
   have:ev q.1 q.2 (-d.2 0)=0:=eq0
   rw[h']at this
   have this:0+q.2 0*(-d.2 0)^0+q.2 1*(-d.2 0)^1+q.2 2*(-d.2 0)^2=0:=this
   rw[Rat.pow_succ,Rat.pow_succ,Rat.pow_succ,Rat.pow_zero]at this
   grind
  -- y = - z2 d0
  have ey:(z2:Rat)*d.2 0*((z2:Rat)*d.2 0)+((-z1:Int):Rat)*((z2:Rat)*d.2 0)+((z0*z2:Int):Rat)=0:=by
   rw[Rat.intCast_neg,Rat.intCast_mul]
   have:(z2:Rat)*d.2 0*((z2:Rat)*d.2 0)+-(z1:Rat)*((z2:Rat)*d.2 0)+(z0:Rat)*(z2:Rat)=(z2:Rat)*((z0:Rat)+(z1:Rat)*(-d.2 0)+(z2:Rat)*(d.2 0*d.2 0)):=by grind
   rw[this,a0,a1,a2]
   have:q.2 0*(D:Rat)+q.2 1*(D:Rat)*(-d.2 0)+q.2 2*(D:Rat)*(d.2 0*d.2 0)=(D:Rat)*(q.2 0+q.2 1*(-d.2 0)+q.2 2*(d.2 0*d.2 0)):=by grind
   rw[this,eq1];grind
  have hden:=acV ey
  obtain⟨y,hy⟩:∃y:Int,(y:Rat)=(z2:Rat)*d.2 0:=⟨((z2:Rat)*d.2 0).num,Rat.ext rfl (id (Eq.symm hden))⟩
  rw[<-hy]at ey
  have ez:y*(y-z1)=-(z0*z2):=by
   have:((y*y+(-z1)*y+z0*z2:Int):Rat)=((0:Int):Rat):=by
    rw[Rat.intCast_add,Rat.intCast_add,Rat.intCast_mul,Rat.intCast_mul];exact ey
   have:y*y+(-z1)*y+z0*z2=0:=by exact_mod_cast this
   grind
  have hyb:y.natAbs<=2^27:=by
   have n1:y.natAbs*(y-z1).natAbs=z0.natAbs*z2.natAbs:=by rw[<-Int.natAbs_mul,ez,Int.natAbs_neg,Int.natAbs_mul]
   have n2:z0.natAbs*z2.natAbs<=2^13*2^13:=Nat.mul_le_mul b0 b2
   refine Decidable.byContradiction fun hn=>?_
   have n3:2^26+1<=(y-z1).natAbs:=aa
   have n4:1*(2^26+1)<=y.natAbs*(y-z1).natAbs:=Nat.mul_le_mul aa n3
   omega
  refine⟨z2,hz2,Nat.le_trans b2 (by decide),fun i hi=>?_⟩
  rcases(show i=0\/i=1 by omega)with rfl|rfl
  ·exact⟨y,by rw[hy,Rat.mul_comm],hyb⟩
  ·rw[h]at d1
   rw[show d.2 1=1 from d1]
   exact⟨z2,(Rat.one_mul _).symm,Nat.le_trans b2 (by decide)⟩
def ku (i:Nat) (c:PP):Prop:=∀g:PP,Trim g->0<g.1->Dv g c->∃(l:Rat) (w h f:PP),l≠0/\(∀t,aK g t=l*aK w t)/\Bd w (120*i)/\Trim w/\jA w h f/\(cA f).1<=2*i+1
theorem ku.of_eq {i:Nat} {c c':PP} (h:ku i c) (e:∀t,aK c t=aK c' t):ku i c':=fun g tg g0 hd=>h g tg g0 (hd.of_eq fun t=>(e t).symm)
theorem afW {s:Nat}:Bd ic s:=⟨1,by decide,Nat.one_le_two_pow,fun i _=>⟨1,(Rat.one_mul _).symm,Nat.one_le_two_pow⟩⟩
theorem Er:Trim ic:=.inr (by decide)
theorem ku.one:ku 0 ic:=fun g tg g0 hd=>by
 have hl:=hd.len (show 0<1 by decide) Er tg
 have hl:g.1<=1:=hl
 have h1:g.1=1:=aa
 have e:∀t,aK g t=g.2 0:=fun t=>by
  show ev g.1 g.2 t=_
  rw[h1]
  show 0+g.2 0*t^0=_
  rw[Rat.pow_zero];grind
 refine⟨g.2 0,ic,ic,ic,fun h0=>?_,fun t=>by rw[e,jn,Rat.mul_one],afW,Er,jA.one,lN⟩
 have:=tK tg fun t=>by rw[e,h0]
 omega
theorem PR {g w:PP} {l:Rat} (tg:Trim g) (tw:Trim w) (hl:l≠0) (e:∀t,aK g t=l*aK w t):g.1=w.1:=
 (B8 (b:=iA l w) tg (yH tw hl) fun t=>by rw[e,gT]).1
theorem E0 {g q c c':PP} (tg:Trim g) (g0:0<g.1) (tq:Trim q) (e:∀t,aK c' t=aK c t*aK q t) (hd:Dv g c'):
  ∃d g1:PP,Trim d/\0<d.1/\d.2 (d.1-1)=1/\Dv d q/\Trim g1/\0<g1.1/\(∀t,aK g t=aK d t*aK g1 t)/\Dv g1 c/\∀h,Dv h g->Dv h q->Dv h d:=by
 obtain⟨a1,b1,h1,h2,h3⟩:=PU tg tq g0
 obtain⟨w,hw⟩:=hd
 have td:=kH tg tq
 have d0:=nF (b:=q) g0
 have hc:∀t,aK (cB b1 c) t=aK (cB a1 w) t:=CU d0 td fun t=>by
  have k1:=h1 t
  have k2:=h2 t
  have k3:=hw t
  have k4:=e t
  rw[cS,cS]
  generalize aK (bW g q) t=x at*
  rw[k4,k1,k2]at k3
  grind
 have hd1:Dv a1 c:=h3.dv (w:=w) fun t=>by rw[<-cS,hc,cS]
 refine⟨bW g q,cA a1,td,d0,zx (a:=(bT (g,q) q.1).1) (xB (s:=(g,q)) g0 _) (mI (s:=(g,q)) tg tq _).1,⟨b1,h2⟩,gk,?_,fun t=>by rw[fj];exact h1 t,hd1.imp fun w hw t=>by rw[hw,fj],fun h k1 k2=>Hh k1 k2⟩
 rcases Nat.eq_zero_or_pos (cA a1).1 with h|h
 ·have:=tK tg fun t=>by rw[h1,<-fj (a:=a1),jU h,Rat.mul_zero]
  omega
 ·exact h
theorem ku.aiP {i:Nat} {c c' q:PP} (h:ku i c) (hc:0<(cA c').1/\(cA c').1<=30) (hb:Bd q 13) (tq:Trim q) (q0:0<q.1) (lq:q.1<=3) (e:∀t,aK c' t=aK c t*aK q t):ku (i+1) c':=fun g tg g0 hd=>by
 have lg:g.1<=30:=Nat.le_trans ((hd.of_eq fun t=>(fj t).symm).len hc.1 gk tg) hc.2
 obtain⟨d,g1,td,d0,d1,dq,t1,p1,e1,k1,_⟩:=E0 tg g0 tq e hd
 obtain⟨bd,ld⟩:=Eo hb tq q0 lq td d0 d1 dq
 obtain⟨l,w,hh,f,hl,ew,bw,tw,sq,lf⟩:=h g1 t1 p1 k1
 have lg1:=Dv.len (h:=g1) (g:=g) ⟨d,fun t=>by rw[e1,Rat.mul_comm]⟩ g0 tg t1
 have lw:=PR t1 tw hl ew
 refine⟨l,cA (cB w d),hh,cB f d,hl,fun t=>by rw[e1,ew,fj,cS];grind,dr.short ((wC bw bd aa aa).more aa) lN,gk,(sq.F2 (c':=cB w d) fun t=>cS).of_eq fun t=>(fj t).symm,?_⟩
 have c1:=Cv (a:=f) (b:=d)
 have c2:=lN (a:=d)
 omega
theorem ku.Ui {i:Nat} {c c' q:PP} (h:ku i c) (hc:0<(cA c').1/\(cA c').1<=30) (hb:Bd q 13) (tq:Trim q) (q0:0<q.1) (lq:q.1<=3) (e:∀t,aK c' t=aK c t*aK q t*aK q t):ku (i+1) c':=fun g tg g0 hd=>by
 have lg:g.1<=30:=Nat.le_trans ((hd.of_eq fun t=>(fj t).symm).len hc.1 gk tg) hc.2
 obtain⟨d1,g1,td1,d10,d11,dq1,t1,p1,e1,k1,u1⟩:=E0 (c:=cB c q) tg g0 tq (fun t=>by rw[cS,e]) hd
 obtain⟨d2,g2,td2,d20,d21,dq2,t2,p2,e2,k2,_⟩:=E0 (c:=c) t1 p1 tq (fun t=>cS) k1
 have dg:Dv d2 d1:=u1 d2 ⟨cB d1 g2,fun t=>by rw[e1,e2,cS];grind⟩ dq2
 obtain⟨x,hx⟩:=dg
 have x0:0<(cA x).1/\d1.1=d2.1-1+((cA x).1-1)+1:=by
  have:=qZ (a:=d2) (b:=cA x) (fun t=>by rw[fj];exact hx t) d10 td1 td2 gk
  exact⟨this.2.1,this.2.2⟩
 have ll:=dq1.len q0 tq td1
 have xm:Dv (dI (cA x)) q:=by
  obtain⟨v,hv⟩:=dq1
  refine⟨iA ((cA x).2 ((cA x).1-1)) (cB d2 v),fun t=>?_⟩
  rw[hv,hx,<-fj (a:=x),DT gk,gT,cS];grind
 obtain⟨bx,lx⟩:=Eo hb tq q0 lq (oU gk) x0.1 (zx x0.1 gk) xm
 obtain⟨b2,l2⟩:=Eo hb tq q0 lq td2 d20 d21 dq2
 obtain⟨l,w,hh,f,hl,ew,bw,tw,sq,lf⟩:=h g2 t2 p2 k2
 have lg2:=Dv.len (h:=g2) (g:=g) ⟨cB d1 d2,fun t=>by rw[e1,e2,cS];grind⟩ g0 tg t2
 have lw:=PR t2 tw hl ew
 have hxl:(cA x).2 ((cA x).1-1)≠0:=by rcases gk (a:=x)with h|h;omega;exact h
 have lx':(dI (cA x)).1=(cA x).1:=rfl
 have y1:=wC bw bx aa aa
 have y2:=wC y1 b2 (by show w.1+(cA x).1+1<=_;omega) aa
 have y3:=wC y2 b2 (by show w.1+(cA x).1+1+d2.1+1<=_;omega) aa
 refine⟨l*(cA x).2 ((cA x).1-1),cA (cB (cB (cB w (dI (cA x))) d2) d2),cB hh d2,cB (cB f (dI (cA x))) d2,fun h0=>(Rat.mul_eq_zero.1 h0).elim hl hxl,fun t=>?_,dr.short (y3.more aa) lN,gk,((sq.F2 (c':=cB w (dI (cA x))) fun t=>cS).KC (c':=cB (cB (cB w (dI (cA x))) d2) d2) fun t=>by rw[cS,cS]).of_eq fun t=>(fj t).symm,?_⟩
 ·rw[e1,e2,ew,hx,<-fj (a:=x),DT gk,fj,cS,cS,cS];grind
 ·have c1:=Cv (a:=cB f (dI (cA x))) (b:=d2)
  have c2:=Cv (a:=f) (b:=dI (cA x))
  have c3:=lN (a:=d2)
  have c4:=lN (a:=dI (cA x))
  omega
def tV (i:Nat) (p:PP):Prop:=(∃t,ji p t≠0)->ku i (gU p)
theorem tV.one:tV 0 (1,fun _=>1):=fun _=>ku.one.of_eq fun t=>by rw[mz (show 1<=1 by decide),jn];rfl
theorem tV.step {i r:Nat} {p q:PP} (h:tV i p) (hp:1<=p.1) (hq:rE q) (hr:1<=r/\r<=2) (hl30:(ij p q r).1<=30):tV (i+1) (ij p q r):=fun⟨t0,h0⟩=>by
 have hl:=AD hp hq r
 have bq:Bd (cA (gU q)) 13:=dr.short hq.pw lN
 have lq:(cA (gU q)).1<=3:=Nat.le_trans lN hq.hi
 have key:ji p t0≠0->ji q t0≠0->ku i (gU p)/\0<(cA (gU q)).1:=fun h1 h2=>⟨h ⟨t0,h1⟩,by
  rcases Nat.eq_zero_or_pos (cA (gU q)).1 with h3|h3
  ·exact absurd (by rw[<-mz hq.lo,<-fj,jU h3]) h2
  ·exact h3⟩
 have hc:0<(cA (gU (ij p q r))).1/\(cA (gU (ij p q r))).1<=30:=⟨by
  rcases Nat.eq_zero_or_pos (cA (gU (ij p q r))).1 with h3|h3
  ·exact absurd (by rw[<-mz hl.1,<-fj,jU h3]) h0
  ·exact h3,Nat.le_trans lN hl30⟩
 rcases(show r=1\/r=2 by omega)with rfl|rfl
 ·have e:∀t,ji (ij p q 1) t=ji p t*ji q t:=fun t=>uE t
  rw[e]at h0
  obtain⟨k1,k2⟩:=key (fun h=>h0 (by rw[h,Rat.zero_mul])) (fun h=>h0 (by rw[h,Rat.mul_zero]))
  exact k1.aiP hc bq gk k2 lq fun t=>by rw[mz hl.1,e,fj,mz hp,mz hq.lo]
 ·have e:∀t,ji (ij p q 2) t=ji p t*ji q t*ji q t:=fun t=>by
   show ji (rB (rB p q) q) t=_
   rw[uE,uE]
  rw[e]at h0
  obtain⟨k1,k2⟩:=key (fun h=>h0 (by rw[h,Rat.zero_mul,Rat.zero_mul])) (fun h=>h0 (by rw[h,Rat.mul_zero]))
  exact k1.Ui hc bq gk k2 lq fun t=>by rw[mz hl.1,e,fj,mz hp,mz hq.lo]
structure eH (c:PP):Prop where
 tr:Trim c
 p0:0<c.1
 len:c.1<=13
 bd:Bd c 800
 dv:∀g:PP,Trim g->0<g.1->Dv g c->Bd (dI g) 800/\∃h f:PP,jA g h f/\(cA f).1<=7
theorem ajm {g:PP} (h:g.2 (g.1-1)=1):gv (dI g) g:=⟨rfl,fun i _=>by
 show g.2 i/g.2 (g.1-1)=g.2 i
 have:(1:Rat)⁻¹=1:=by decide+kernel
 rw[h,Rat.div_def,this,Rat.mul_one]⟩
theorem eH.BO {c g:PP} (h:eH c) (tg:Trim g) (g0:0<g.1) (hd:Dv g c) (hm:g.2 (g.1-1)=1):eH g where
 tr:=tg
 p0:=g0
 len:=Nat.le_trans (hd.len h.p0 h.tr tg) h.len
 bd:=(h.dv g tg g0 hd).1.Dk (ajm hm)
 dv:=fun k tk k0 kd=>h.dv k tk k0 (kd.trans hd)
theorem ku.gd {i:Nat} {c:PP} (h:ku i c) (hi:i<=6) (hf:i<=3\/c.1<=7) (tc:Trim c) (c0:0<c.1) (lc:c.1<=13) (bc:Bd c 800):eH c where
 tr:=tc
 p0:=c0
 len:=lc
 bd:=bc
 dv:=fun g tg g0 hd=>by
  obtain⟨l,w,hh,f,hl,ew,bw,tw,sq,lf⟩:=h g tg g0 hd
  have hp:gv g (iA l w):=B8 tg (yH tw hl) fun t=>by rw[ew,gT]
  have hs:l8 g w:=⟨l,hl,hp.1,fun i hi=>hp.2 i hi⟩
  have bw2:Bd w 800:=bw.more aa
  refine⟨(bw2.cL tw).Dk hs.cL.symm,?_⟩
  rcases hf with hf|hf
  ·refine⟨hh,iA l f,⟨fun t=>by rw[ew,sq.eq,gT];grind,sq.dv.sC l fun t=>?_⟩,?_⟩
   ·have:=nu (a:=(1,fun _=>l)) (b:=w) (c:=g) (fun t=>by rw[ew];congr 1;show l=0+l*t^0;rw[Rat.pow_zero];grind) t
    rw[jS,jS,this]
    have z:eM (1,fun _=>l) t=0:=by
     show 0+l*(((0:Nat):Int)*t^(0-1):Rat)=0
     rw[show(((0:Nat):Int):Rat)=0 from rfl];grind
    have z2:aK (1,fun _=>l) t=l:=by show 0+l*t^0=l;rw[Rat.pow_zero];grind
    rw[z,z2];grind
   ·show bK (fun i=>l*f.2 i) f.1<=7
    rw[FL hl]
    have:bK f.2 f.1<=2*i+1:=lf
    omega
  ·have:=hd.len c0 tc tg
   exact⟨ic,g,⟨fun t=>by rw[jn,Rat.one_mul],⟨bC g,fun t=>by rw[jn,Rat.one_mul]⟩⟩,Nat.le_trans lN aa⟩
theorem eH.gcd {c:PP} (h:eH c):eH (bW c (bC c)):=
 h.BO (kH h.tr dZ) (nF h.p0) (An h.tr dZ).1 (zx (a:=(bT (c,bC c) (bC c).1).1) (xB (s:=(c,bC c)) h.p0 _) (mI (s:=(c,bC c)) h.tr dZ _).1)
theorem agI {c:PP} (tc:Trim c) (c0:0<c.1):(bQ c).2 ((bQ c).1-1)=1:=by
 have h:=A6 tc c0
 unfold bQ at h ⊢
 rw[if_neg aa]at h ⊢
 exact zx h yl
theorem eH.free {c:PP} (h:eH c):eH (bQ c)/\(bQ c).1<=7:=by
 obtain⟨G,e,_,_,h1,_⟩:=AR h.tr h.p0
 obtain⟨_,hh,f,sq,lf⟩:=h.dv c h.tr h.p0 (.refl c)
 exact⟨h.BO mM (A6 h.tr h.p0) ⟨G,fun t=>by rw[h1,Rat.mul_comm]⟩ (agI h.tr h.p0),Nat.le_trans (XX sq h.p0 h.tr) lf⟩
def Ab (x M:Rat):Prop:=-M<=x/\x<=M
theorem Ab.add {x y M N:Rat} (h:Ab x M) (h':Ab y N):Ab (x+y) (M+N):=by
 unfold Ab at*;constructor<;>grind
theorem Ab.sub {x y M N:Rat} (h:Ab x M) (h':Ab y N):Ab (x-y) (M+N):=by
 unfold Ab at*;constructor<;>grind
theorem Ab.mul {x y M N:Rat} (h:Ab x M) (h':Ab y N):Ab (x*y) (M*N):=by
 unfold Ab at*
 have h1:=Rat.mul_nonneg (a:=M-x) (b:=N+y) (by grind) (by grind)
 have h2:=Rat.mul_nonneg (a:=M+x) (b:=N-y) (by grind) (by grind)
 have h3:=Rat.mul_nonneg (a:=M-x) (b:=N-y) (by grind) (by grind)
 have h4:=Rat.mul_nonneg (a:=M+x) (b:=N+y) (by grind) (by grind)
 constructor<;>grind
theorem Ab.more {x M N:Rat} (h:Ab x M) (hM:M<=N):Ab x N:=by
 unfold Ab at*;constructor<;>grind
theorem Ab.pos {x M:Rat} (h:Ab x M):0<=M:=by unfold Ab at*;grind
theorem Ab.zero {M:Rat} (h:0<=M):Ab 0 M:=by unfold Ab;constructor<;>grind
def T2 (n:Nat):Rat:=2^n
theorem qk (n:Nat):T2 (n+1)=2*T2 n:=by unfold T2;rw[Rat.pow_succ,Rat.mul_comm]
theorem ni:∀n,0<T2 n
 |0=>by unfold T2;rw[Rat.pow_zero];decide
 |n+1=>by rw[qk];have:=ni n;grind
theorem uC (m n:Nat):T2 (m+n)=T2 m*T2 n:=pow_add' 2 m n
theorem IC:∀n,1<=T2 n
 |0=>by unfold T2;rw[Rat.pow_zero];decide
 |n+1=>by rw[qk];have:=IC n;grind
theorem l5 {m n:Nat} (h:m<=n):T2 m<=T2 n:=by
 obtain⟨k,rfl⟩:∃k,n=m+k:=⟨n-m,aa⟩
 rw[uC]
 have h1:=ni m
 have h2:=IC k
 have:=Rat.mul_le_mul_of_nonneg_left (c:=T2 m) h2 (by grind)
 grind
theorem vw:∀n:Nat,T2 n=((2^n:Nat):Int)
 |0=>by unfold T2;rw[Rat.pow_zero];rfl
 |n+1=>by
  rw[qk,vw n,Nat.pow_succ,Int.natCast_mul,Rat.intCast_mul]
  show(2:Rat)*_=_*2
  rw[Rat.mul_comm]
theorem pz {a b:Int} (h:a<=b):(a:Rat)<=(b:Rat):=by exact_mod_cast h
theorem bZ.ab {D:Int} {s:Nat} {x:Rat} (h:bZ D s x) (hD:D≠0):Ab x (T2 s):=by
 obtain⟨z,h1,h2⟩:=h
 have z1:(z:Rat)<=T2 s:=by rw[vw];exact pz aa
 have z2:-(T2 s)<=(z:Rat):=by rw[vw,<-Rat.intCast_neg];exact pz aa
 have hT:=ni s
 rcases(show D<=-1\/1<=D by omega)with hd|hd
 ·have d1:(D:Rat)<=-1:=pz (b:=-1) hd
  constructor
  ·refine Decidable.byContradiction fun hn=>?_
   have h3:=Rat.mul_pos (a:=-T2 s-x) (b:=T2 s) (by grind) hT
   have h4:=Rat.mul_nonneg (a:=-x) (b:=-D-1) (by grind) (by grind)
   grind
  ·refine Decidable.byContradiction fun hn=>?_
   have h4:=Rat.mul_nonneg (a:=x) (b:=-D-1) (by grind) (by grind)
   grind
 ·have d1:(1:Rat)<=(D:Rat):=pz (a:=1) hd
  constructor
  ·refine Decidable.byContradiction fun hn=>?_
   have h4:=Rat.mul_nonneg (a:=-x) (b:=D-1) (by grind) (by grind)
   grind
  ·refine Decidable.byContradiction fun hn=>?_
   have h4:=Rat.mul_nonneg (a:=x) (b:=D-1) (by grind) (by grind)
   grind
theorem bZ.low {D:Int} {s e:Nat} {x:Rat} (h:bZ D s x) (hD0:D≠0) (hD:D.natAbs<=2^e) (hx:x≠0):1<=x*T2 e\/x*T2 e<=-1:=by
 obtain⟨z,h1,_⟩:=h
 have hz:z≠0:=fun h0=>by
  rw[h0]at h1
  exact(Rat.mul_eq_zero.1 (show x*(D:Rat)=0 from h1.symm)).elim hx (qw hD0)
 have z1:(D:Rat)<=T2 e:=by rw[vw];exact pz aa
 have z2:-(T2 e)<=(D:Rat):=by rw[vw,<-Rat.intCast_neg];exact pz aa
 have hzz:(z:Rat)<=-1\/1<=(z:Rat):=by
  rcases(show z<=-1\/1<=z by omega)with h|h
  ·exact .inl (pz (b:=-1) h)
  ·exact .inr (pz (a:=1) h)
 rcases(show x<0\/0<x by grind)with hx|hx
 ·right
  rcases hzz with h|h
  ·have:=Rat.mul_nonneg (a:=-x) (b:=T2 e-D) (by grind) (by grind);grind
  ·have:=Rat.mul_nonneg (a:=-x) (b:=T2 e+D) (by grind) (by grind);grind
 ·left
  rcases hzz with h|h
  ·have:=Rat.mul_nonneg (a:=x) (b:=T2 e+D) (by grind) (by grind);grind
  ·have:=Rat.mul_nonneg (a:=x) (b:=T2 e-D) (by grind) (by grind);grind
theorem Ab.pow {t:Rat} {r:Nat} (h:Ab t (T2 r)):∀n:Nat,Ab (t^n) (T2 (r*n))
 |0=>by rw[Rat.pow_zero,Nat.mul_zero];exact⟨by unfold T2;rw[Rat.pow_zero];decide+kernel,by unfold T2;rw[Rat.pow_zero];decide+kernel⟩
 |n+1=>by rw[Rat.pow_succ,Nat.mul_succ,uC];exact(Ab.pow h n).mul h
def qF (n:Nat) (k:Nat->Rat) (s:Nat):Prop:=∀i,i<n->Ab (k i) (T2 s)
theorem dr.cf {n s:Nat} {k:Nat->Rat} (h:dr n k s):qF n k s:=by
 obtain⟨D,d1,d2,d3⟩:=h
 exact fun i hi=>(d3 i hi).ab d1
theorem AT {k:Nat->Rat} {s r:Nat} {t:Rat} (ht:Ab t (T2 r)):∀n,qF n k s->Ab (ev n k t) (T2 (s+n*(r+1)))
 |0,_=>Ab.zero (by have:=ni (s+0*(r+1));grind)
 |n+1,h=>by
  rw[P7]
  have h1:=AT ht n fun i hi=>h i aa
  have h2:=(h n aa).mul (ht.pow n)
  rw[<-uC]at h2
  have h3:T2 (s+r*n)<=T2 (s+n*(r+1)):=l5 (by rw[Nat.mul_add,Nat.mul_comm n r];omega)
  have h4:T2 (s+n*(r+1)+1)<=T2 (s+(n+1)*(r+1)):=l5 (by rw[Nat.add_mul];omega)
  rw[qk]at h4
  exact(h1.add h2).more (by grind)
theorem ac5 {n s r m:Nat} {k:Nat->Rat} {t:Rat} (ht:Ab t (T2 r)) (h:qF n k s) (hm:m<=n):Ab (fP n k t m) (T2 (s+n*(r+1))):=by
 rw[Ew m hm]
 refine(AT (s:=s) ht m fun i hi=>h _ aa).more (l5 ?_)
 have:=Nat.mul_le_mul_right (r+1) hm
 omega
theorem KP {n s r:Nat} {k:Nat->Rat} {x:Rat} (hx:Ab x (T2 r)) (h:qF (n+1) k s):qF n (jL (n+1) k x) (s+(n+1)*(r+1)):=fun i hi=>ac5 hx h aa
theorem Qx {s r:Nat} {k:Nat->Rat} {x y:Rat} (hx:Ab x (T2 r)) (hy:Ab y (T2 r)):∀n,qF n k s->∃q:Rat,ev n k y-ev n k x=(y-x)*q/\Ab q (T2 (s+2*(n*(r+1))))
 |0,_=>⟨0,by show(0:Rat)-0=_;grind,Ab.zero (by have:=ni (s+2*(0*(r+1)));grind)⟩
 |n+1,h=>by
  refine⟨ev n (jL (n+1) k x) y,by rw[wo (c:=x) (t:=y)];grind,(AT hy n (KP hx h)).more (l5 ?_)⟩
  rw[Nat.add_mul];omega
theorem R9 {k:Nat->Rat} {x:Rat} (n:Nat):eM (n+1,k) x=ev n (jL (n+1) k x) x:=by
 have e:∀t,aK (n+1,k) t=aK (mo x) t*aK (n,jL (n+1) k x) t+ev (n+1) k x:=fun t=>by rw[B1];exact wo n
 have e2:∀t,aK (jE (n+1,k) (1,fun _=>-ev (n+1) k x)) t=aK (mo x) t*aK (n,jL (n+1) k x) t:=fun t=>by
  rw[kz,e]
  show _+(0+-ev (n+1) k x*t^0)=_
  rw[Rat.pow_zero];grind
 have h:=nu e2 x
 rw[B1,Jc,show x-x=0 by grind,Rat.zero_mul,Rat.add_zero,Rat.one_mul]at h
 rw[show ev n (jL (n+1) k x) x=aK (n,jL (n+1) k x) x from rfl,<-h]
 show _=sg (fun i=>(eF (n+1,k) i+eF (1,fun _=>-ev (n+1) k x) i)*dX x i) (max (n+1) 1)
 rw[iq (g:=fun i=>eF (n+1,k) i*dX x i+eF (1,fun _=>-ev (n+1) k x) i*dX x i) fun i _=>by grind,s8,uB (a:=(n+1,k)) (Nat.le_max_left _ _),uB (a:=(1,fun _=>-ev (n+1) k x)) (Nat.le_max_right _ _)]
 have z:eM (1,fun _=>-ev (n+1) k x) x=0:=by
  show 0+-ev (n+1) k x*(((0:Nat):Int)*x^(0-1):Rat)=0
  rw[show(((0:Nat):Int):Rat)=0 from rfl];grind
 rw[z,Rat.add_zero]
theorem WD {a:PP} {s r:Nat} {x y:Rat} (hx:Ab x (T2 r)) (hy:Ab y (T2 r)) (h:qF a.1 a.2 s):∃q:Rat,aK a y-aK a x=(y-x)*(eM a x+(y-x)*q)/\Ab q (T2 (s+3*(a.1*(r+1)))):=by
 obtain⟨m,k⟩:=a
 cases m with
 |zero=>exact⟨0,by show(0:Rat)-0=(y-x)*(0+_);grind,Ab.zero (by have:=ni (s+3*(0*(r+1)));grind)⟩
 |succ n=>
  obtain⟨q,h1,h2⟩:=Qx hx hy n (KP hx h)
  refine⟨q,?_,h2.more (l5 ?_)⟩
  ·rw[R9]
   show ev (n+1) k y-ev (n+1) k x=_
   rw[wo (c:=x) (t:=y)]
   have:ev n (jL (n+1) k x) y=ev n (jL (n+1) k x) x+(y-x)*q:=by grind
   rw[this];grind
  ·show s+(n+1)*(r+1)+2*(n*(r+1))<=s+3*((n+1)*(r+1))
   rw[Nat.add_mul];omega
def jq (a b:Rat):Prop:=(0<a/\0<b)\/(a<0/\b<0)
theorem gm {q:Rat} (h:0<q):bL q=1:=by unfold bL;rw[if_neg (by grind),if_pos h]
theorem gn {q:Rat} (h:q<0):bL q=-1:=by unfold bL;rw[if_pos h]
theorem mJ {q:Rat} (h:q=0):bL q=0:=by subst h;rfl
def CY (k:Nat) (a b:Nat->Rat):Prop:=∀j,j<=k->jq (a j) (b j)\/(∃i,j=i+1/\i+2<=k/\jq (a i) (b i)/\jq (a (i+2)) (b (i+2))/\¬jq (a i) (a (i+2)))\/(j=0/\1<=k/\jq (a 1) (b 1)/\((0<a 1/\a 0<b 0)\/(a 1<0/\b 0<a 0)))
def vr (a:Nat->Rat) (n:Nat):Nat:=(bX (fun i=>bL (a i)) n).2
theorem mP (s:Nat->Int) (i:Nat):bX s (i+1)=(if s i=0 then(bX s i).1 else s i,if s i*(bX s i).1<0 then(bX s i).2+1 else(bX s i).2):=rfl
theorem jq.fZ {a b:Rat} (h:jq a b):(bL a=1/\bL b=1)\/(bL a=-1/\bL b=-1):=by
 rcases h with⟨h1,h2⟩|⟨h1,h2⟩
 ·exact .inl ⟨gm h1,gm h2⟩
 ·exact .inr ⟨gn h1,gn h2⟩
theorem wG (a:Rat):bL a=1\/bL a=-1\/bL a=0:=by
 rcases(show 0<a\/a<0\/a=0 by grind)with h|h|h
 ·exact .inl (gm h)
 ·exact .inr (.inl (gn h))
 ·exact .inr (.inr (mJ h))
theorem Ny {s:Nat->Int} {i:Nat} (h:s i≠0):(bX s (i+1)).1=s i:=by rw[mP];exact if_neg h
theorem JO {s:Nat->Int} {j:Nat} {e:Int} (he:e=1\/e=-1) (h1:(bX s (j+1)).1=e) (h2:s (j+2)=-e) (h3:s (j+1)=1\/s (j+1)=-1\/s (j+1)=0):(bX s (j+3)).2=(bX s (j+1)).2+1:=by
 rw[mP s (j+2),mP s (j+1),h1,h2]
 generalize (bX s (j+1)).2=c
 rcases he with rfl|rfl<;>rcases h3 with h|h|h<;>rw[h]<;>simp
theorem Nc {k:Nat} {a b:Nat->Rat} (h:CY k a b):∀m j,j+m=k->jq (a j) (b j)->((bX (fun i=>bL (a i)) (k+1)).2:Int)-(bX (fun i=>bL (b i)) (k+1)).2=((bX (fun i=>bL (a i)) (j+1)).2:Int)-(bX (fun i=>bL (b i)) (j+1)).2:=by
 intro m
 induction m using Nat.strongRecOn with
 |_ m ih=>
  intro j hj hs
  cases m with
  |zero=>rw[show k=j by omega]
  |succ m=>
   have ea:(bX (fun i=>bL (a i)) (j+1)).1=bL (a j):=Ny (s:=fun i=>bL (a i)) (by rcases hs.fZ with⟨h1,_⟩|⟨h1,_⟩<;>simp[h1])
   have eb:(bX (fun i=>bL (b i)) (j+1)).1=bL (b j):=Ny (s:=fun i=>bL (b i)) (by rcases hs.fZ with⟨_,h1⟩|⟨_,h1⟩<;>simp[h1])
   rcases h (j+1) aa with h1|⟨i,e,h2,_,h3,h4⟩|⟨h1,_⟩
   ·rw[ih m aa (j+1) aa h1,mP (fun i=>bL (a i)) (j+1),mP (fun i=>bL (b i)) (j+1),ea,eb]
    rcases hs.fZ with⟨k1,k2⟩|⟨k1,k2⟩<;>rcases h1.fZ with⟨k3,k4⟩|⟨k3,k4⟩<;>simp[k1,k2,k3,k4]<;>omega
   ·obtain rfl:i=j:=aa
    rw[ih (m-1) aa (i+2) aa h3]
    have key:bL (a (i+2))=-bL (a i)/\bL (b (i+2))=-bL (b i)/\(bL (a i)=1\/bL (a i)=-1)/\(bL (b i)=1\/bL (b i)=-1):=by
     rcases hs with⟨k1,k2⟩|⟨k1,k2⟩<;>rcases h3 with⟨k3,k4⟩|⟨k3,k4⟩
     ·exact absurd (.inl ⟨k1,k3⟩) h4
     ·rw[gm k1,gm k2,gn k3,gn k4];simp
     ·rw[gn k1,gn k2,gm k3,gm k4];simp
     ·exact absurd (.inr ⟨k1,k3⟩) h4
    rw[JO key.2.2.1 ea key.1 (wG _),JO key.2.2.2 eb key.2.1 (wG _)]
    omega
   ·omega
def rS (a:Nat->Rat):Int:=if bL (a 0)=0 then bL (a 1)else bL (a 0)
theorem U8 {k:Nat} {a b:Nat->Rat} (h:CY k a b):
  (vr a (k+1)=vr b (k+1)/\b 0≠0/\(a 0=0\/jq (a 0) (b 0))/\rS b=rS a/\rS a≠0)\/(vr a (k+1)=vr b (k+1)+1/\a 0≠0/\¬jq (a 0) (b 0)/\rS b=-rS a/\rS a≠0):=by
 rcases h 0 (Nat.zero_le _)with h0|⟨i,e,_⟩|⟨_,hk,h1,hm⟩
 ·left
  have ht:=Nc h k 0 aa h0
  have e1:(bX (fun i=>bL (a i)) (0+1)).2=0:=by rw[mP];simp[bX]
  have e2:(bX (fun i=>bL (b i)) (0+1)).2=0:=by rw[mP];simp[bX]
  rw[e1,e2]at ht
  refine⟨by unfold vr;omega,by rcases h0 with⟨h1,h2⟩|⟨h1,h2⟩<;>grind,.inr h0,?_⟩
  unfold rS
  rcases h0.fZ with⟨h1,h2⟩|⟨h1,h2⟩<;>simp[h1,h2]
 ·omega
 ·have ht:=Nc h (k-1) 1 aa h1
  have ea:(bX (fun i=>bL (a i)) (1+1)).2=if bL (a 1)*bL (a 0)<0 then 1 else 0:=by
   rw[mP,mP]
   rcases wG (a 0)with h|h|h<;>simp[h,bX]
  have eb:(bX (fun i=>bL (b i)) (1+1)).2=if bL (b 1)*bL (b 0)<0 then 1 else 0:=by
   rw[mP,mP]
   rcases wG (b 0)with h|h|h<;>simp[h,bX]
  rw[ea,eb]at ht
  have ev:∀x y:Nat,(x:Int)-y=0->x=y:=fun x y h=>aa
  have ev1:∀x y:Nat,(x:Int)-y=1->x=y+1:=fun x y h=>aa
  unfold vr
  rcases hm with⟨p1,p2⟩|⟨p1,p2⟩
  ·have q1:0<b 1:=by rcases h1 with⟨_,h⟩|⟨h,_⟩<;>grind
   rw[gm p1,gm q1]at ht
   rcases(show 0<a 0\/a 0<0\/a 0=0 by grind)with ha|ha|ha
   ·have hb:0<b 0:=by grind
    rw[gm ha,gm hb]at ht
    exact .inl ⟨ev _ _ (by rw[ht];decide),by grind,.inr (.inl ⟨ha,hb⟩),by unfold rS;simp[gm ha,gm hb],by unfold rS;simp[gm ha]⟩
   ·rw[gn ha]at ht
    rcases(show 0<b 0\/b 0<0\/b 0=0 by grind)with hb|hb|hb
    ·rw[gm hb]at ht
     exact .inr ⟨ev1 _ _ (by rw[ht];decide),by grind,by unfold jq;grind,by unfold rS;simp[gn ha,gm hb],by unfold rS;simp[gn ha]⟩
    ·rw[gn hb]at ht
     exact .inl ⟨ev _ _ (by rw[ht];decide),by grind,.inr (.inr ⟨ha,hb⟩),by unfold rS;simp[gn ha,gn hb],by unfold rS;simp[gn ha]⟩
    ·rw[mJ hb]at ht
     exact .inr ⟨ev1 _ _ (by rw[ht];decide),by grind,by unfold jq;grind,by unfold rS;simp[gn ha,mJ hb,gm q1],by unfold rS;simp[gn ha]⟩
   ·have hb:0<b 0:=by grind
    rw[mJ ha,gm hb]at ht
    exact .inl ⟨ev _ _ (by rw[ht];decide),by grind,.inl ha,by unfold rS;simp[mJ ha,gm hb,gm p1],by unfold rS;simp[mJ ha,gm p1]⟩
  ·have q1:b 1<0:=by rcases h1 with⟨h,_⟩|⟨_,h⟩<;>grind
   rw[gn p1,gn q1]at ht
   rcases(show 0<a 0\/a 0<0\/a 0=0 by grind)with ha|ha|ha
   ·rw[gm ha]at ht
    rcases(show 0<b 0\/b 0<0\/b 0=0 by grind)with hb|hb|hb
    ·rw[gm hb]at ht
     exact .inl ⟨ev _ _ (by rw[ht];decide),by grind,.inr (.inl ⟨ha,hb⟩),by unfold rS;simp[gm ha,gm hb],by unfold rS;simp[gm ha]⟩
    ·rw[gn hb]at ht
     exact .inr ⟨ev1 _ _ (by rw[ht];decide),by grind,by unfold jq;grind,by unfold rS;simp[gm ha,gn hb],by unfold rS;simp[gm ha]⟩
    ·rw[mJ hb]at ht
     exact .inr ⟨ev1 _ _ (by rw[ht];decide),by grind,by unfold jq;grind,by unfold rS;simp[gm ha,mJ hb,gn q1],by unfold rS;simp[gm ha]⟩
   ·have hb:b 0<0:=by grind
    rw[gn ha,gn hb]at ht
    exact .inl ⟨ev _ _ (by rw[ht];decide),by grind,.inr (.inr ⟨ha,hb⟩),by unfold rS;simp[gn ha,gn hb],by unfold rS;simp[gn ha]⟩
   ·have hb:b 0<0:=by grind
    rw[mJ ha,gn hb]at ht
    exact .inl ⟨ev _ _ (by rw[ht];decide),by grind,.inl ha,by unfold rS;simp[mJ ha,gn hb,gn p1],by unfold rS;simp[mJ ha,gn p1]⟩
theorem ajS {a q:Nat->Rat} {k:Nat} {η Q P:Rat} (hr:∀j,j+2<=k->a j=q j*a (j+1)-a (j+2)) (hq:∀j,j+2<=k->Ab (q j) Q) (hQ:0<=Q) (hP:Q+1<=P) (hη:0<η) (hl:P^k*η<=a k\/a k<=-(P^k*η)) {j:Nat} (hj:j+1<=k) (h1:-η<a j) (h2:a j<η):P*η<=a (j+1)\/a (j+1)<=-(P*η):=by
 refine Decidable.byContradiction fun hn=>?_
 have hpw:∀i:Nat,1<=P^i:=fun i=>by
  induction i with
  |zero=>rw[Rat.pow_zero];decide
  |succ i ih=>rw[Rat.pow_succ];have:=Rat.mul_nonneg (a:=P^i) (b:=P-1) (by grind) (by grind);grind
 have step:∀i,j+1+i<=k->(-(P^i*η)<a (j+i)/\a (j+i)<P^i*η)/\-(P^(i+1)*η)<a (j+1+i)/\a (j+1+i)<P^(i+1)*η:=by
  intro i
  induction i with
  |zero=>
   intro _
   rw[Rat.pow_zero,Rat.pow_succ,Rat.pow_zero]
   exact⟨⟨by rw[Nat.add_zero];grind,by rw[Nat.add_zero];grind⟩,by rw[Nat.add_zero];grind,by rw[Nat.add_zero];grind⟩
  |succ i ih=>
   intro hi
   obtain⟨⟨i1,i2⟩,i3,i4⟩:=ih aa
   have e:=hr (j+i) aa
   have hqq:=hq (j+i) aa
   rw[show j+i+1=j+1+i by omega,show j+i+2=j+1+(i+1) by omega]at e
   have hX:=Rat.mul_pos (a:=P^i) (b:=η) (by have:=hpw i;grind) hη
   have hm:Ab (q (j+i)*a (j+1+i)) (Q*(P^(i+1)*η)):=hqq.mul ⟨by grind,by grind⟩
   obtain⟨m1,m2⟩:=hm
   rw[show j+(i+1)=j+1+i by omega]
   refine⟨⟨i3,i4⟩,?_⟩
   rw[Rat.pow_succ P (i+1)]
   rw[Rat.pow_succ P i]at*
   generalize P^i=X at*
   have g1:=Rat.mul_nonneg (a:=X*η) (b:=P*(P-Q-1)) (by grind) (Rat.mul_nonneg (by grind) (by grind))
   have g2:=Rat.mul_nonneg (a:=X*η) (b:=P-1) (by grind) (by grind)
   constructor<;>grind
 obtain⟨_,s1,s2⟩:=step (k-j-1) aa
 rw[show j+1+(k-j-1)=k by omega,show k-j-1+1=k-j by omega]at s1 s2
 have hle:P^(k-j)*η<=P^k*η:=by
  have e:P^k=P^(k-j)*P^j:=by rw[<-pow_add'];congr 1;omega
  rw[e]
  have g1:=Rat.mul_nonneg (a:=P^(k-j)*η) (b:=P^j-1) (Rat.mul_nonneg (by have:=hpw (k-j);grind) (by grind)) (by have:=hpw j;grind)
  grind
 rcases hl with hl|hl<;>grind
theorem SU {a b q:Nat->Rat} {k:Nat} {η ε Q P:Rat} (hr:∀j,j+2<=k->a j=q j*a (j+1)-a (j+2)) (hq:∀j,j+2<=k->Ab (q j) Q) (hQ:0<=Q) (hP:Q+1<=P) (hη:0<η) (hl:P^k*η<=a k\/a k<=-(P^k*η)) (hε:ε<η)
  (hL:∀j,j<=k->Ab (b j-a j) ε) (hd:1<=k->∃d w:Rat,0<d/\b 0-a 0=d*(a 1+w)/\Ab w ε):CY k a b:=by
 have big:∀j,j<=k->η<=a j\/a j<=-η->jq (a j) (b j):=fun j hj h=>by
  obtain⟨h1,h2⟩:=hL j hj
  rcases h with h|h
  ·exact .inl ⟨by grind,by grind⟩
  ·exact .inr ⟨by grind,by grind⟩
 have hPη:=Rat.mul_nonneg (a:=P-1) (b:=η) (by grind) (by grind)
 intro j hj
 rcases(show(η<=a j\/a j<=-η)\/(-η<a j/\a j<η) by grind)with h|⟨h1,h2⟩
 ·exact .inl (big j hj h)
 ·have hjk:j+1<=k:=by
   refine Decidable.byContradiction fun hn=>?_
   obtain rfl:j=k:=aa
   have hpw:1<=P^j:=by
    clear hl hj hn h1 h2 hL hr hq hd big
    induction j with
    |zero=>rw[Rat.pow_zero];decide
    |succ i ih=>rw[Rat.pow_succ];have:=Rat.mul_nonneg (a:=P^i) (b:=P-1) (by grind) (by grind);grind
   have:=Rat.mul_nonneg (a:=P^j-1) (b:=η) (by grind) (by grind)
   rcases hl with hl|hl<;>grind
  have hn:=ajS hr hq hQ hP hη hl hjk h1 h2
  have hb1:jq (a (j+1)) (b (j+1)):=big _ hjk (by rcases hn with h|h<;>grind)
  cases j with
  |zero=>
   refine .inr (.inr ⟨rfl,hjk,hb1,?_⟩)
   obtain⟨d,w,d0,e,w1,w2⟩:=hd hjk
   rcases hn with h|h
   ·have:=Rat.mul_pos (a:=d) (b:=a (0+1)+w) d0 (by grind)
    exact .inl ⟨by grind,by grind⟩
   ·have:=Rat.mul_pos (a:=d) (b:=-(a (0+1)+w)) d0 (by grind)
    exact .inr ⟨by grind,by grind⟩
  |succ i=>
   have e:=hr i aa
   obtain⟨m1,m2⟩:=(hq i aa).mul (show Ab (a (i+1)) η from⟨by grind,by grind⟩)
   have hQη:=Rat.mul_nonneg (a:=P-Q-1) (b:=η) (by grind) (by grind)
   refine .inr (.inl ⟨i,rfl,aa,big i aa ?_,hb1,?_⟩)
   ·rcases hn with h|h
    ·right;grind
    ·left;grind
   ·unfold jq
    rcases hn with h|h<;>grind
abbrev dn (c:PP) (j:Nat):PP:=(bM (en c) j).1
abbrev dj (c:PP):Nat:=fo (en c)
theorem pn {c:PP}:Trim (en c).1/\Trim (en c).2:=⟨mM,dZ⟩
theorem Hu {c:PP} (tc:Trim c) (c0:0<c.1) {j:Nat} (hj:j<=dj c):0<(dn c j).1:=by
 cases j with
 |zero=>exact A6 tc c0
 |succ j=>
  have:=(oS (s:=en c) pn.1 pn.2).2.2 j (by have:dj c=fo (en c):=rfl;omega)
  exact Nat.pos_of_ne_zero this
theorem Rt {c:PP} (j:Nat):Trim (dn c j):=(oO pn.1 pn.2 j).1
theorem VU {c:PP}:(dn c (dj c+1)).1=0:=(oS (s:=en c) pn.1 pn.2).2.1
theorem Nu {c:PP} (tc:Trim c) (c0:0<c.1) {j:Nat} (hj:j+1<=dj c) (t:Rat):aK (dn c j) t=aK (fF (dn c j) (dn c (j+1))) t*aK (dn c (j+1)) t-aK (dn c (j+2)) t:=by
 have h:=vY (a:=dn c j) (Hu tc c0 hj) t
 have e:aK (dn c (j+2)) t=((-1:Int):Rat)*aK (dx (dn c j) (dn c (j+1))) t:=wV
 rw[show((-1:Int):Rat)=-1 from rfl]at e
 rw[e]
 grind
theorem QK {c:PP} (tc:Trim c) (c0:0<c.1):∀i,i<=dj c->Dv (dn c (dj c)) (dn c (dj c-i))/\Dv (dn c (dj c)) (dn c (dj c-i+1))
 |0,_=>⟨.refl _,sy,fun t=>by rw[Nat.sub_zero,jU VU,By,Rat.mul_zero]⟩
 |i+1,hi=>by
  obtain⟨h1,h2⟩:=QK tc c0 i aa
  have e:=fun t=>Nu tc c0 (c:=c) (j:=dj c-(i+1)) aa t
  rw[show dj c-(i+1)+1=dj c-i by omega,show dj c-(i+1)+2=dj c-i+1 by omega]at e
  refine⟨Dv.comb (u:=fF (dn c (dj c-(i+1))) (dn c (dj c-i))) (v:=iA (-1) ic) h1 h2 fun t=>?_,by rw[show dj c-(i+1)+1=dj c-i by omega];exact h1⟩
  rw[e,gT,jn];grind
theorem adH {c:PP} (tc:Trim c) (c0:0<c.1):(dn c (dj c)).1=1:=by
 obtain⟨h1,h2⟩:=QK tc c0 (dj c) aT
 rw[Nat.sub_self]at h1 h2
 obtain⟨u,v,h3⟩:=Up tc c0
 have h4:Dv (dn c (dj c)) ic:=Dv.comb (u:=u) (v:=v) h1 h2 fun t=>by rw[jn];exact(h3 t).symm
 have h5:=h4.len (show 0<1 by decide) Er (Rt _)
 have h6:=Hu tc c0 (Nat.le_refl (dj c))
 have h5:(dn c (dj c)).1<=1:=h5
 omega
structure mK (c:PP) (s q:Nat):Prop where
 tr:Trim c
 p0:0<c.1
 k7:dj c<=7
 bd:∀j,j<=dj c->Bd (dn c j) s/\(dn c j).1<=7
 qu:∀j,j+1<=dj c->Bd (fF (dn c j) (dn c (j+1))) q/\(fF (dn c j) (dn c (j+1))).1<=7
theorem eH.sm {c:PP} (h:eH c):∀j,j<=dj c->∃B,B+1<=1176606/\Bd (bM (en c) j).1 B/\Bd (bM (en c) j).2 B/\(bM (en c) j).1.1<=7/\(bM (en c) j).2.1<(bM (en c) j).1.1:=fun j hj=>by
 obtain⟨f1,f2⟩:=h.free
 have hfd:Bd (bC (bQ c)) 806:=f1.bd.cR aa
 have hdl:(bC (bQ c)).1<=(bQ c).1-1:=fN
 have hp:=f1.p0
 obtain⟨B,b1,b2,b3,b4,b5⟩:=HV (a:=bQ c) (b:=bC (bQ c)) mM dZ f2 aa (f1.bd.more (show 800<=806 by omega)) hfd j hj
 have h3:3^(7-(bM (bQ c,bC (bQ c)) j).1.1)<=3^6:=y9 aa
 have h4:=Nat.mul_le_mul_left (2*(806+1)) h3
 exact⟨B,aa,b2,b3,b4,b5⟩
theorem eH.xE {c:PP} (h:eH c):mK c 1176605 9412848 where
 tr:=h.tr
 p0:=h.p0
 k7:=by
  obtain⟨f1,f2⟩:=h.free
  have:=(oS (s:=en c) pn.1 pn.2).1
  have h2:(en c).2.1<=(bQ c).1-1:=fN
  have h3:dj c=fo (en c):=rfl
  omega
 bd:=fun j hj=>by
  obtain⟨B,b1,b2,b3,b4,b5⟩:=h.sm j hj
  exact⟨b2.more aa,b4⟩
 qu:=fun j hj=>by
  obtain⟨B,b1,b2,b3,b4,b5⟩:=h.sm j aa
  have h0:0<(bM (en c) j).2.1:=Hu h.tr h.p0 hj
  have hr:=(b2.rem b3 h0 (oO pn.1 pn.2 j).2).2.1
  have hM:(bM (en c) j).1.1-((bM (en c) j).2.1-1)<=7:=aa
  have:=Nat.mul_le_mul_right (B+1) hM
  exact⟨hr.more aa,Nat.le_trans (show bK _ _<=_ from fN) hM⟩
def qa (s q r:Nat):Nat:=2*s+21*(r+1)+7*(q+7*(r+1)+1)
theorem Zf {a:PP} {s r:Nat} {t:Rat} (h:qF a.1 a.2 s) (hl:a.1<=7) (ht:Ab t (T2 r)):Ab (aK a t) (T2 (s+7*(r+1))):=
 (AT ht _ h).more (l5 (by have:=Nat.mul_le_mul_right (r+1) hl;omega))
theorem Ky (a:Nat):∀k:Nat,T2 a^k=T2 (a*k)
 |0=>by rw[Rat.pow_zero];unfold T2;rw[Nat.mul_zero,Rat.pow_zero]
 |k+1=>by rw[Rat.pow_succ,Ky a k,Nat.mul_succ,uC]
theorem mK.gp {c:PP} {s q r:Nat} (h:mK c s q) {x y:Rat} (hx:Ab x (T2 r)) (hy:Ab y (T2 r)) (hxy:x<y) (hf:(y-x)*T2 (qa s q r)<1):
  CY (dj c) (fun j=>aK (dn c j) x) (fun j=>aK (dn c j) y):=by
 obtain⟨Q,hQ⟩:∃Q,Q=T2 (q+7*(r+1)):=⟨_,rfl⟩
 obtain⟨P,hP⟩:∃P,P=T2 (q+7*(r+1)+1):=⟨_,rfl⟩
 have hQ1:1<=Q:=hQ▸IC _
 have hPQ:P=2*Q:=by rw[hP,hQ,qk]
 have hPk:P^dj c=T2 ((q+7*(r+1)+1)*dj c):=by
  rw[hP];exact Ky _ _
 obtain⟨η,h1⟩:∃η:Rat,η=(P^dj c*T2 s)⁻¹:=⟨_,rfl⟩
 have hpos:0<P^dj c*T2 s:=by rw[hPk];exact Rat.mul_pos (ni _) (ni _)
 have hη:0<η:=by rw[h1];exact Rat.inv_pos.2 hpos
 have hη1:η*(P^dj c*T2 s)=1:=by rw[h1];exact Rat.inv_mul_cancel _ (by grind)
 have hd:0<y-x:=by grind
 refine SU (q:=fun j=>aK (fF (dn c j) (dn c (j+1))) x) (k:=dj c) (η:=η) (ε:=(y-x)*T2 (s+21*(r+1))) (Q:=Q) (P:=P) (fun j hj=>Nu h.tr h.p0 aa x) (fun j hj=>?_) (by grind) (by grind) hη ?_ ?_ (fun j hj=>?_) (fun hk=>?_)
 ·obtain⟨b1,b2⟩:=h.qu j aa
  rw[hQ];exact Zf (dr.cf b1) b2 hx
 ·have hl:=adH h.tr h.p0
  obtain⟨⟨D,d1,d2,d3⟩,_⟩:=h.bd (dj c) aT
  have e:aK (dn c (dj c)) x=(dn c (dj c)).2 0:=by
   show ev (dn c (dj c)).1 (dn c (dj c)).2 x=_
   rw[hl]
   show 0+(dn c (dj c)).2 0*x^0=_
   rw[Rat.pow_zero];grind
  have hne:(dn c (dj c)).2 0≠0:=by
   rcases Rt (c:=c) (dj c)with h0|h0
   ·omega
   ·rw[hl]at h0;exact h0
  have hlow:=(d3 0 aa).low d1 d2 hne
  have hTs:=ni s
  have e2:P^dj c*η*T2 s=1:=by grind
  show P^dj c*η<=aK (dn c (dj c)) x\/aK (dn c (dj c)) x<=-(P^dj c*η)
  rw[e]
  generalize (dn c (dj c)).2 0=a at*
  generalize P^dj c*η=w at*
  rcases hlow with hlow|hlow
  ·left
   refine Decidable.byContradiction fun hn=>?_
   have:=Rat.mul_pos (a:=w-a) (b:=T2 s) (by grind) hTs
   grind
  ·right
   refine Decidable.byContradiction fun hn=>?_
   have:=Rat.mul_pos (a:=w+a) (b:=T2 s) (by grind) hTs
   grind
 ·refine Decidable.byContradiction fun hn=>?_
  have g1:=Rat.mul_nonneg (a:=(y-x)*T2 (s+21*(r+1))-η) (b:=P^dj c*T2 s) (by grind) (by grind)
  have g2:(y-x)*T2 (s+21*(r+1))*(P^dj c*T2 s)<=(y-x)*T2 (qa s q r):=by
   rw[hPk,<-uC,Rat.mul_assoc,<-uC]
   have hle:T2 (s+21*(r+1)+((q+7*(r+1)+1)*dj c+s))<=T2 (qa s q r):=l5 (by
    have:=Nat.mul_le_mul_left (q+7*(r+1)+1) h.k7
    unfold qa;omega)
   exact Rat.mul_le_mul_of_nonneg_left hle (by grind)
  grind
 ·obtain⟨b1,b2⟩:=h.bd j hj
  obtain⟨w,e,hw⟩:=Qx hx hy (dn c j).1 (dr.cf b1)
  show Ab (ev (dn c j).1 (dn c j).2 y-ev (dn c j).1 (dn c j).2 x) _
  rw[e]
  refine Ab.mul ⟨by grind,by grind⟩ (hw.more (l5 ?_))
  have:=Nat.mul_le_mul_right (r+1) b2
  omega
 ·obtain⟨b1,b2⟩:=h.bd 0 (Nat.zero_le _)
  obtain⟨w,e,hw⟩:=WD (a:=dn c 0) hx hy (dr.cf b1)
  refine⟨y-x,(y-x)*w,hd,?_,Ab.mul ⟨by grind,by grind⟩ (hw.more (l5 ?_))⟩
  ·show aK (dn c 0) y-aK (dn c 0) x=(y-x)*(aK (dn c 1) x+(y-x)*w)
   rw[e]
   have:aK (dn c 1) x=eM (dn c 0) x:=jS (a:=bQ c)
   rw[this]
  ·have:=Nat.mul_le_mul_right (r+1) b2
   omega
theorem GC (x:Rat):∃r:Nat,Ab x (T2 r):=by
 refine⟨x.num.natAbs,bZ.ab (D:=(x.den:Int)) ⟨x.num,?_,Nat.le_of_lt Nat.lt_two_pow_self⟩ (by have:=x.den_pos;omega)⟩
 have hd:((x.den:Int):Rat)≠0:=qw (D:=(x.den:Int)) (by have:=x.den_pos;omega)
 have:=Rat.num_divInt_den x
 rw[Rat.divInt_eq_div]at this
 have h2:=Rat.div_mul_cancel (a:=(x.num:Rat)) hd
 rw[this]at h2
 exact h2.symm
theorem Tu (q:Rat):∃n:Nat,q<((n:Int):Rat):=by
 obtain⟨r,_,h⟩:=GC q
 refine⟨2^r+1,?_⟩
 rw[vw]at h
 have:(((2^r:Nat):Int):Rat)+1=(((2^r+1:Nat):Int):Rat):=by rw[Int.natCast_add,Rat.intCast_add];rfl
 rw[<-this];grind
theorem aeE {d N T:Rat} (hd:0<d) (hN:1<=N) (hT:0<T) (h:d*T<N+1):∃t,0<t/\t<d/\t*T<1/\(d-t)*T<N:=by
 have ht:(N+1)*(N+1)⁻¹=1:=Rat.mul_inv_cancel _ (by grind)
 have hip:0<(N+1)⁻¹:=Rat.inv_pos.2 (by grind)
 generalize (N+1)⁻¹=w at*
 have e1:d*((N+1)*w)=d:=by rw[ht,Rat.mul_one]
 have e2:N*((N+1)*w)=N:=by rw[ht,Rat.mul_one]
 have e3:d*T*((N+1)*w)=d*T:=by rw[ht,Rat.mul_one]
 have hNw:0<N*w:=Rat.mul_pos (by grind) hip
 have g1:=Rat.mul_pos hd hip
 have g2:=Rat.mul_pos hd hNw
 have g3:=Rat.mul_pos (a:=N+1-d*T) (b:=w) (by grind) hip
 have g4:=Rat.mul_pos (a:=N+1-d*T) (b:=N*w) (by grind) hNw
 exact⟨d*w,g1,by grind,by grind,by grind⟩
theorem UT {P:Rat->Rat->Prop} {E:Nat} {X Y:Rat} (base:∀x y,X<=x->y<=Y->x<y->(y-x)*T2 E<1->P x y) (step:∀x m y,X<=x->y<=Y->x<m->m<y->P x m->P m y->P x y) {x y:Rat} (hX:X<=x) (hY:y<=Y) (hxy:x<y):P x y:=by
 have key:∀(n:Nat) (x:Rat),X<=x->x<y->(y-x)*T2 E<(((n+1:Nat):Int):Rat)->P x y:=by
  intro n
  induction n with
  |zero=>intro x h1 h2 h3;exact base x y h1 hY h2 h3
  |succ n ih=>
   intro x h1 h2 h3
   have eN:(((n+1+1:Nat):Int):Rat)=(((n+1:Nat):Int):Rat)+1:=by rw[Int.natCast_add (n+1) 1,Rat.intCast_add];rfl
   rw[eN]at h3
   have hd:0<y-x:=by clear base step ih;grind
   obtain⟨t,t1,t2,t3,t4⟩:=aeE hd (pz (a:=1) aa) (ni E) h3
   have a1:x<x+t/\x+t<y/\x+t-x=t/\y-(x+t)=y-x-t/\x+t<=Y/\X<=x+t:=by
    clear base step ih t3 t4 h3 eN
    exact⟨by grind,by grind,by grind,by grind,by grind,by grind⟩
   exact step x (x+t) y h1 hY a1.1 a1.2.1 (base _ _ h1 a1.2.2.2.2.1 a1.1 (by rw[a1.2.2.1];exact t3)) (ih _ a1.2.2.2.2.2 a1.2.1 (by rw[a1.2.2.2.1];exact t4))
 obtain⟨n,hn⟩:=Tu ((y-x)*T2 E)
 refine key n x hX hxy ?_
 have:(((n+1:Nat):Int):Rat)=((n:Int):Rat)+1:=by rw[Int.natCast_add,Rat.intCast_add];rfl
 rw[this]
 clear base step key
 grind
def oK (c:PP) (x:Rat):Nat:=vr (fun j=>aK (dn c j) x) (dj c+1)
def bt (c:PP) (x y:Rat):Int:=if x>=y then 0 else(oK c x:Int)-oK c y-(if aK (bQ c) y=0 then 1 else 0)
def rC (c:PP) (x:Rat):Int:=rS fun j=>aK (dn c j) x
theorem Af {c:PP} {x y:Rat} (h:x<y):bt c x y=(oK c x:Int)-oK c y-(if aK (bQ c) y=0 then 1 else 0):=if_neg (by grind)
def Rg (r:Nat) (x y:Rat):Prop:=-(T2 r)<=x/\y<=T2 r/\x<y
theorem Rg.ab {r:Nat} {x y:Rat} (h:Rg r x y):Ab x (T2 r)/\Ab y (T2 r):=by
 obtain⟨h1,h2,h3⟩:=h
 exact⟨⟨h1,by grind⟩,by grind,h2⟩
theorem aea {x y:Rat} (h:x<y):∃r,Rg r x y:=by
 obtain⟨r,h1,_⟩:=GC x
 obtain⟨r',_,h2⟩:=GC y
 have a:=l5 (show r<=r+r' by omega)
 have b:=l5 (show r'<=r+r' by omega)
 exact⟨r+r',by grind,by grind,h⟩
theorem mK.near {c:PP} {s q r:Nat} (h:mK c s q) {x y:Rat} (hr:Rg r x y) (hf:(y-x)*T2 (qa s q r)<1):
  (oK c x=oK c y/\aK (bQ c) y≠0/\(aK (bQ c) x=0\/jq (aK (bQ c) x) (aK (bQ c) y))/\rC c y=rC c x/\rC c x≠0)\/(oK c x=oK c y+1/\aK (bQ c) x≠0/\¬jq (aK (bQ c) x) (aK (bQ c) y)/\rC c y=-rC c x/\rC c x≠0):=
 U8 (h.gp hr.ab.1 hr.ab.2 hr.2.2 hf)
theorem mK.short {c:PP} {s q r:Nat} (h:mK c s q) {x y:Rat} (hr:Rg r x y) (hf:(y-x)*T2 (qa s q r)<1):bt c x y=0\/bt c x y=1:=by
 rw[Af hr.2.2]
 rcases h.near hr hf with⟨h1,h2,_⟩|⟨h1,_⟩
 ·rw[if_neg h2,h1];omega
 ·rw[h1];split<;>omega
theorem Fq {c:PP} {x m y:Rat} (h1:x<m) (h2:m<y):bt c x y=bt c x m+(if aK (bQ c) m=0 then 1 else 0)+bt c m y:=by
 rw[Af h1,Af h2,Af (show x<y by grind)];omega
theorem mK.PW {c:PP} {s q:Nat} (h:mK c s q) (x y:Rat):0<=bt c x y:=by
 by_cases hxy:x<y
 ·obtain⟨r,hr⟩:=aea hxy
  refine UT (P:=fun x y=>0<=bt c x y) (E:=qa s q r) (X:=-(T2 r)) (Y:=T2 r) (fun x y h1 h2 h3 h4=>?_) (fun x m y _ _ h1 h2 p1 p2=>?_) hr.1 hr.2.1 hxy
  ·rcases h.short ⟨h1,h2,h3⟩ h4 with h|h<;>rw[h]<;>decide
  ·rw[Fq h1 h2];split<;>omega
 ·rw[show bt c x y=0 from if_pos (by grind)];decide
theorem mK.root {c:PP} {s q:Nat} (h:mK c s q) {x m y:Rat} (h1:x<m) (h2:m<y) (hm:aK (bQ c) m=0):1<=bt c x y:=by
 have a:=h.PW x m
 have b:=h.PW m y
 rw[Fq h1 h2,if_pos hm];omega
theorem kr.mul {a b c d:PP} (h:kr a b) (h':kr a c) (e:∀t,aK d t=aK b t*aK c t):kr a d:=by
 obtain⟨u,v,h⟩:=h
 obtain⟨w,z,h'⟩:=h'
 refine⟨jE u (cB v (cB b w)),cB v z,fun t=>?_⟩
 have h1:=h t
 have h2:=h' t
 rw[kz,cS,cS,cS,e]
 have:aK u t*aK a t+aK v t*aK b t*(aK w t*aK a t+aK z t*aK c t)=1:=by rw[h2];grind
 grind
theorem Jw (a:Nat->Rat):∀n,vr a n<=n
 |0=>aT
 |n+1=>by
  have:=Jw a n
  unfold vr at*
  rw[mP]
  dsimp only
  split<;>omega
theorem Rr {c:PP} {s q:Nat} (h:mK c s q) (x y:Rat):bt c x y<=8:=by
 by_cases hxy:x<y
 ·rw[Af hxy]
  have h1:oK c x<=dj c+1:=Jw _ _
  have h2:=h.k7
  split<;>omega
 ·rw[show bt c x y=0 from if_pos (by grind)];decide
end Go.Am
namespace Go.Am.B
open Go Go.Am.N AV ag aq IntKind Proofs.Tryz
theorem C4 {c:PP} (h:eH c):Cf c/\wU c:=by
 have hW:=cF
 have hl:=h.len
 have h0:=h.p0
 obtain⟨f1,f2⟩:=h.free
 have g1:=h.gcd
 have b1:Bd c 806:=h.bd.more aa
 have b2:Bd (bC c) 806:=h.bd.cR aa
 have hd:mQ c (bW c (bC c)):=yM (M:=13) h.bd g1.bd g1.p0 g1.tr aa aa
 have hf:cN (bQ c).1 (bQ c).2:=lF f1.bd aa
 have hder:cN (c.1-1) (cR c.2):=lF (AO h.bd aa) aa
 have h13:2*((13+1)*(2*(806+1)*3^(13-1)))+2<=af:=by rw[hW];decide
 have hdl:(bC c).1<=13:=Nat.le_trans Ck aa
 refine⟨⟨aa,h.tr,hder,fun _=>⟨BH h.tr dZ hl hdl aa b1 b2 h13,hd,hf⟩⟩,⟨aa,aa,h.tr,hder,fun _=>⟨⟨lF (b1.cL h.tr) aa,lF (b2.cL dZ) aa,BH (oU h.tr) (oU dZ) hl hdl aa (b1.cL h.tr) (b2.cL dZ) h13⟩,hd,hf⟩⟩⟩
theorem OF {c:PP} (h:eH c):xU (en c):=fun j hj=>by
 have hW:=cF
 obtain⟨B,b1,b2,b3,b4,b5⟩:=h.sm j (by have:dj c=fo (en c):=rfl;omega)
 have ht:=oO (s:=en c) mM dZ j
 have hn:=(oS (s:=en c) mM dZ).2.2 j hj
 refine⟨yM (M:=7) b2 b3 aa ht.2 aa aa,?_⟩
 exact lF ((B7 (M:=7) b2 b3 aa ht.2 aa).1.neg) aa
theorem Cd {c:PP} (h:eH c):nO c/\lM c:=by
 have hW:=cF
 obtain⟨f1,f2⟩:=h.free
 have hder:cN ((bQ c).1-1) (cR (bQ c).2):=lF (AO f1.bd aa) aa
 exact⟨⟨(C4 h).1,hder,OF h⟩,⟨(C4 h).2,hder,OF h⟩⟩
theorem H9 {c:PP} (h:eH c):bA c<=8:=by
 have:dj c<=7:=h.xE.k7
 show dj c+1<=8
 omega
theorem V8 {c:PP} (h:eH c) {i:Nat} (hi:i<bA c):Bd (bh c i) 1176605/\(bh c i).1<=7:=h.xE.bd i (by have:bA c=dj c+1:=rfl;omega)
theorem QD {c:PP} (h:eH c) {τ:Nat} {T:Int} {t:Rat} (ht:bZ T τ t) (hT:T.natAbs<=2^τ) (hT0:T≠0) (hs:τ<=2^31):cq (bA c) (bh c) t:=fun i hi=>by
 have hW:=cF
 obtain⟨b1,b2⟩:=V8 h hi
 exact⟨aa,JR b1 ht hT hT0 b2 aa⟩
theorem LP {n:Nat} {f:Nat->AV} {a:Int}:∀i,i<=3->tV i (fl n f a i).1
 |0,_=>tV.one
 |i+1,hi=>by
  have h1:=zD (n:=n) (f:=f) (a:=a) i aa
  have h2:=zD (n:=n) (f:=f) (a:=a) (i+1) hi
  have h3:=h2.hi
  exact(LP i aa).step h1.lo Ap D6 (by show(fl n f a (i+1)).1.1<=30;omega)
theorem TM {n:Nat} {f:Nat->AV} {a:Int} (h0:(aF (ki n f a)).1≠0):eH (aF (ki n f a)):=by
 have hN:=FC (n:=n) (f:=f) (a:=a)
 have hp:=QT (n:=n) (f:=f) (a:=a)
 have e:∀t,aK (gU (ki n f a)) t=aK (aF (ki n f a)) t:=fun t=>uD.symm
 have hex:∃t,ji (ki n f a) t≠0:=Classical.byContradiction fun hn=>h0 (tK (show Trim (aF (ki n f a))from mU) fun t=>by
  rw[<-e,mz hp.lo]
  exact Classical.byContradiction fun h=>hn ⟨t,h⟩)
 exact((LP (n:=n) (f:=f) (a:=a) (pH n f a) hN hex).of_eq e).gd aa (.inl hN) mU (Nat.pos_of_ne_zero h0) hp.gd.len (hp.gd.bd.more aa)
theorem B9 {c:PP} {x y:Rat}:dG (bA c) (bh c) x y=bt c x y:=by
 have e:∀t i,cX (bh c) t i=bL (aK (dn c i) t):=fun t i=>by
  show bL (cr (dn c i) t)=_
  rw[sP];rfl
 have e2:cr (bh c 0) y=aK (bQ c) y:=sP
 unfold dG bt oK vr
 rw[e2,show cX (bh c) x=fun i=>bL (aK (dn c i) x)from funext (e x),show cX (bh c) y=fun i=>bL (aK (dn c i) y)from funext (e y)]
 rfl
def cH:Nat:=68243226
theorem nE:cH=68243226:=rfl
theorem acU:qa 1176605 9412848 0=68243223:=by decide
def Dy (z:Rat):Prop:=∃j,j<=cH/\bZ ((2^j:Nat):Int) j z
theorem Dy.ch {c:PP} (h:eH c) {z:Rat} (hz:Dy z):cq (bA c) (bh c) z:=by
 obtain⟨j,h1,h2⟩:=hz
 have hI:=nE
 exact QD h h2 (by rw[Int.natAbs_natCast];exact Nat.le_refl _) (by have:=Nat.pow_pos (n:=j) (show 0<2 by decide);omega) aa
theorem I6 {j:Nat} {x y:Rat} (hx:bZ ((2^j:Nat):Int) j x) (hy:bZ ((2^j:Nat):Int) j y):bZ ((2^(j+1):Nat):Int) (j+1) (aV x y):=by
 obtain⟨z,h1,h2⟩:=hx.add hy
 refine⟨z,?_,h2⟩
 rw[h1,Nat.pow_succ,Int.natCast_mul,Rat.intCast_mul]
 unfold aV
 generalize (((2^j:Nat):Int):Rat)=D
 have:(((2:Nat):Int):Rat)=2:=rfl
 rw[this];grind
theorem Qh {j:Nat} {x:Rat} (hx:bZ ((2^j:Nat):Int) j x):bZ ((2^(j+1):Nat):Int) (j+1) x:=by
 have:=hx.up (E:=2) (e:=1) (by decide)
 rw[Nat.pow_succ,Int.natCast_mul]
 exact this
theorem Ag {x y:Rat} (h:x<y):x<aV x y/\aV x y<y/\aV x y-x=(y-x)*(1/2)/\y-aV x y=(y-x)*(1/2):=by
 unfold aV
 exact⟨by grind,by grind,by grind,by grind⟩
theorem u5 {j:Nat} {x:Rat} (hj:j<=cH) (hx:bZ ((2^j:Nat):Int) j x):Dy x:=⟨j,hj,hx⟩
structure jx (j:Nat) (x y:Rat):Prop where
 nx:bZ ((2^j:Nat):Int) j x
 ny:bZ ((2^j:Nat):Int) j y
 w:(y-x)*T2 j=1
 lo:0<=x
 hi:y<=1
theorem jx.lt {j:Nat} {x y:Rat} (h:jx j x y):x<y:=by
 have h1:=ni j
 have h2:=h.w
 refine Decidable.byContradiction fun hn=>?_
 have:=Rat.mul_nonneg (a:=x-y) (b:=T2 j) (by grind) (by grind)
 grind
theorem jx.Gk {j:Nat} {x y:Rat} (h:jx j x y):jx (j+1) x (aV x y)/\jx (j+1) (aV x y) y:=by
 obtain⟨m1,m2,m3,m4⟩:=Ag h.lt
 have hw:=h.w
 have h1:=h.lo
 have h2:=h.hi
 exact⟨⟨Qh h.nx,I6 h.nx h.ny,by rw[m3,qk];grind,h1,by grind⟩,⟨I6 h.nx h.ny,Qh h.ny,by rw[m4,qk];grind,by grind,h2⟩⟩
theorem jx.zero:jx 0 0 1 where
 nx:=.zero
 ny:=⟨1,by decide+kernel,aT⟩
 w:=by unfold T2;rw[Rat.pow_zero];decide+kernel
 lo:=by decide
 hi:=by decide
theorem jx.Pq {c:PP} (hc:eH c) {j:Nat} {x y:Rat} (h:jx j x y) (hj:cH-1<=j):bt c x y=0\/bt c x y=1:=by
 have hD:=nE
 have hE:=acU
 have hw:=h.w
 have hlt:=h.lt
 have t0:T2 0=1:=by unfold T2;rw[Rat.pow_zero]
 refine hc.xE.short (r:=0) ⟨by rw[t0];have:=h.lo;grind,by rw[t0];exact h.hi,hlt⟩ ?_
 have hle:T2 (qa 1176605 9412848 0+1)<=T2 j:=l5 (by rw[hE];omega)
 rw[qk]at hle
 have:=Rat.mul_le_mul_of_nonneg_left (c:=y-x) hle (by grind)
 grind
theorem CL {c:PP} (hc:eH c):∀e j x y,j+e=cH->1<=e->jx j x y->jO (bA c) (bh c) e x y
 |0,_,_,_,_,h,_=>absurd h (by decide)
 |e+1,j,x,y,hj,_,h=>by
  refine⟨(u5 aa h.nx).ch hc,(u5 aa h.ny).ch hc,fun h0 h1=>?_⟩
  rw[B9]at h0 h1
  rcases Nat.eq_zero_or_pos e with he|he
  ·rcases h.Pq hc aa with h2|h2
   ·exact absurd h2 h0
   ·exact absurd h2 h1
  ·obtain⟨a,b⟩:=h.Gk
   have hD:=nE
   have hW:=cF
   exact⟨(a.ny.sz (by have:=Nat.pow_pos (n:=j+1) (show 0<2 by decide);omega) (e:=j+1) (by rw[Int.natAbs_natCast];exact Nat.le_refl _)).more aa,CL hc e (j+1) _ _ aa he a,CL hc e (j+1) _ _ aa he b⟩
theorem jO.len {c:PP} (hc:eH c):∀e {x y:Rat},x<y->jO (bA c) (bh c) e x y->((bG (bA c) (bh c) e x y).length:Int)=bt c x y
 |0,_,_,_,h=>h.elim
 |e+1,x,y,hxy,h=>by
  obtain⟨_,_,h3⟩:=h
  unfold bG
  rw[B9]at h3 ⊢
  by_cases h0:bt c x y=0
  ·rw[if_pos h0,h0];rfl
  ·rw[if_neg h0]
   by_cases h1:bt c x y=1
   ·rw[if_pos h1,h1];rfl
   ·obtain⟨_,a,b⟩:=h3 h0 h1
    obtain⟨m1,m2,_⟩:=Ag hxy
    have i1:=jO.len hc e m1 a
    have i2:=jO.len hc e m2 b
    have e2:cr (bh c 0) (aV x y)=aK (bQ c) (aV x y):=sP
    rw[if_neg h1,e2,Fq m1 m2,List.length_append]
    by_cases h2:aK (bQ c) (aV x y)=0
    ·rw[if_pos h2,if_pos h2,List.length_cons];omega
    ·rw[if_neg h2,if_neg h2];omega
theorem DM {c:PP}:∀e j x y,j+e=cH->jx j x y->∀s,s∈bG (bA c) (bh c) e x y->Dy s.1/\Dy s.2
 |0,_,_,_,_,_=>fun s hs=>by cases hs
 |e+1,j,x,y,hj,h=>fun s hs=>by
  unfold bG at hs
  have hlt:=h.lt
  have kx:=u5 (show j<=cH by omega) h.nx
  have ky:=u5 (show j<=cH by omega) h.ny
  obtain⟨a,b⟩:=h.Gk
  split at hs
  ·cases hs
  ·split at hs
   ·rw[List.mem_singleton]at hs
    subst hs
    exact⟨by show Dy (eJ x y);unfold eJ;split<;>assumption,by show Dy (eI x y);unfold eI;split<;>assumption⟩
   ·rcases List.mem_append.1 hs with hs|hs
    ·exact DM e (j+1) _ _ aa a s hs
    ·split at hs
     ·rcases List.mem_cons.1 hs with hs|hs
      ·subst hs
       exact⟨u5 (show j+1<=cH by omega) a.ny,u5 (show j+1<=cH by omega) a.ny⟩
      ·exact DM e (j+1) _ _ aa b s hs
     ·exact DM e (j+1) _ _ aa b s hs
theorem HJ:Dy 0:=⟨0,Nat.zero_le _,jx.zero.nx⟩
theorem Ip:Dy 1:=⟨0,Nat.zero_le _,jx.zero.ny⟩
theorem Ru {c:PP} {s:Rat×Rat} (hs:s∈lG cH (bA c) (bh c)):Dy s.1/\Dy s.2:=by
 unfold lG at hs
 rcases List.mem_append.1 hs with hs|hs
 ·rcases List.mem_append.1 hs with hs|hs
  ·split at hs
   ·rw[List.mem_singleton]at hs;subst hs;exact⟨HJ,HJ⟩
   ·cases hs
  ·exact DM cH 0 _ _ (Nat.zero_add _) jx.zero s hs
 ·split at hs
  ·rw[List.mem_singleton]at hs;subst hs;exact⟨Ip,Ip⟩
  ·cases hs
theorem Gd {l:List (Rat×Rat)} {i:Nat} (h:i<l.length):cj l i∈l:=by
 unfold cj
 rw[List.getD_eq_getElem?_getD,List.getElem?_eq_getElem h]
 exact List.getElem_mem h
theorem OM {c:PP} (hc:eH c):(lG cH (bA c) (bh c)).length<=10:=by
 have h1:=jO.len hc cH (show(0:Rat)<1 by decide) (CL hc cH 0 0 1 (Nat.zero_add _) (by have:=nE;omega) jx.zero)
 have h2:=Rr hc.xE 0 1
 unfold lG
 rw[List.length_append,List.length_append]
 have a:(if cr (bh c 0) 0=0 then [((0:Rat),(0:Rat))]else []).length<=1:=by split<;>simp
 have b:(if cr (bh c 0) 1=0 then [((1:Rat),(1:Rat))]else []).length<=1:=by split<;>simp
 omega
def Ma:Spec:=dD (kC (eU af) (kC (eU af) kN)) (fun a=>.rat (aV a.1 a.2.1) eu) fun a=>[Sz (aV a.1 a.2.1) af]
def Ka:Spec:=dD (kC (kL af) (kC (eU eu) kN)) (fun a=>.rat (cr a.1 a.2.1) af) fun a=>[a.1.1<2^40,gb a.1 a.2.1,Sz a.2.1 af]
def FK:Spec:=dD (kC (eU eu) kN) (fun a=>dA a.1 a.1 af) fun a=>[Sz a.1 af]
def ajk:AV->Bool
 |.rat _ n=>Nat.ble (af+1) n
 |_=>false
def jH (n:Nat) (c:Nat->PP):Nat->Rat->Rat->Prop
 |0,_,_=>False
 |d+1,x,y=>x<y/\cq n c x/\cq n c y/\Sz x af/\Sz y af/\((bG n c (d+1) x y).length:Int)=dG n c x y/\(bG n c (d+1) x y).length<2^30/\(dG n c x y≠0->dG n c x y≠1->jH n c d x (aV x y)/\jH n c d (aV x y) y)
def Eh (b1 b2:Bool) (d:Nat):Spec:=rK fun K l=>match l with
 |[v,a,b]=>match mG.read v,(eU eu).read a,(eU eu).read b with
  |some ((n,c),q1),some (x,q2),some (y,q3)=>match bif ajk b then b1 else b2 with
   |true=>some ⟨.own K 6 0 (bG n c d x y).length,[(K,nC (bG n c d x y))],[az q1,az q2,az q3,0<n,n<2^30,jH n c d x y,bG n c d x y≠[]]⟩
   |false=>some (aL .nil [az q1,az q2,az q3,0<n,n<2^30,jH n c d x y,bG n c d x y=[]])
  |_,_,_=>none
 |_=>none
def vJ (b1 b2:Bool) (d:Nat):bk:=nG::(75,Eh b1 b2 d)::(62,x6)::(136,Ma)::(76,Ka)::(77,FK)::gN
abbrev zN:Code:=aH f75
abbrev yI (n:Nat) (c:Nat->PP) (x y:Rat):aN:=⟨aU 0 [eO n c,.rat x af,.rat y af],[],0⟩
theorem Ry:bf 75 f75:=bg func75
theorem ae4 {n d:Nat} {c:Nat->PP} {x y:Rat}:b9 T (vJ true true d) [100015] 60 f75 zN (yI n c x y)=
  some (aj [(0:Nat)<1,(0:Nat)<1,∀(i:Nat),i<n->aW (aA (c i)) (aA (bu (aA (c i)))),af<=af,af<=af,(0:Nat)<n,n<2^30,x<y,cq n (fun i=>bu (aA (c i))) x,cq n (fun i=>bu (aA (c i))) y] (aj [(dG n (fun i=>bu (aA (c i))) x y==0)=true] (leaf ret [nil]))):=ah
theorem UJ {n d:Nat} {c:Nat->PP} {x y:Rat}:aI T (vJ true true d) [200015,100017] 60 [6] [zN] (yI n c x y)=
  let c3:AV:=rat 0 1;let c2:Int:=dG n (fun i=>bu (aA (c i))) x y;let c1:Prop:=0<1;some (aj [c1,c1,∀(i:Nat),i<n->aW (aA (c i)) (aA (bu (aA (c i)))),af<=af,af<=af,(0:Nat)<n,n<2^30,x<y,cq n (fun i=>bu (aA (c i))) x,cq n (fun i=>bu (aA (c i))) y] (aj [(c2==0)=false] (aj [(c2==1)=true] (aj [c1,c1,(1:Nat)*6<=2^24] (leaf ret ([own 61440 6 0 1],[(61440,au.mk true true 6 1 fun i=>nth [agg [rat x af,rat y af]] (agg [c3,c3]) i)])))))):=ah
theorem Zk {n d:Nat} {c:Nat->PP} {x y:Rat}:aI T (vJ true true d) [200015,200017,35] 60 [6] [zN] (yI n c x y)=
  let c19:AV:=rat 0 1;let c18:Prop:=az [eu<=eu];let c17:Prop:=az [af<=eu];let c15:Prop:=0<n;let c13:Int:=dG n (fun i=>bu (aA (c i))) x y;let c11:Nat:=2^47;let c10:Nat:=112+1;let c9:Rat:=aV x y;let c7:Prop:=n<2^30;let c5:PP:=c (Int.toNat (0:Int));let c4:Prop:=az [∀(i:Nat),i<n->aW (aA (c i)) (aA (bu (aA (c i))))];let c3:Prop:=0<1;let c16:Nat×(Nat->Rat):=(c5.fst,fun i=>aM (rat (c5.snd i) af));let c12:Prop:=jH n (fun i=>bu (aA (c i))) d c9 y;let c6:List (Rat×Rat):=bG n (fun i=>bu (aA (c i))) d x c9;let c2:List (Rat×Rat):=bG n (fun i=>bu (aA (c i))) d c9 y;let c14:Nat:=c2.length;let c1:Nat:=c6.length;let c8:Nat:=c1+1;some (aj [c3,c3,∀(i:Nat),i<n->aW (aA (c i)) (aA (bu (aA (c i)))),af<=af,af<=af,c15,c7,x<y,cq n (fun i=>bu (aA (c i))) x,cq n (fun i=>bu (aA (c i))) y] (aj [(c13==0)=false] (aj [(c13==1)=false] (aj [c3,c3,af<=af,af<=af,Sz c9 af,c3] (aj [c3,c3,c4,c17,c18,c15,c7,jH n (fun i=>bu (aA (c i))) d x c9,c6≠[]] (aj [(0:Int)<=0/\Int.toNat (0:Int)<n,c3,cP (fun i=>rat (c5.snd i) af) c5.fst af,eu<=eu,c5.fst<2^40,gb c16 c9,Sz c9 af,af<2^41] (fork (bL (cr c16 c9)==0) (aj [c3,eu<=eu,Sz c9 af,(1:Nat)*6<=2^24,c8*c10*2<=c11] (aj [c3,c3,c4,c18,c17,c15,c7,c12,c2≠[],(c8+c14)*c10*2<=c11] (leaf ret ([own 163840 6 0 (c8+c14)],[(163840,au.mk true true 6 (c8+c14) fun i=>if i<c8 then if i<c1 then cy c6 i else nth [agg [rat c9 af,rat c9 af]] (agg [c19,c19]) (i-c1+0)else cy c2 (i-c8+0))])))) (aj [c3,c3,c4,c18,c17,c15,c7,c12,c2≠[],(c1+c14)*c10*2<=c11] (leaf ret ([own 139264 6 0 (c1+c14)],[(139264,au.mk true true 6 (c1+c14) fun i=>if i<c1 then cy c6 i else cy c2 (i-c1+0))])))))))))):=ah
theorem aah {n d:Nat} {c:Nat->PP} {x y:Rat}:aI T (vJ true false d) [200015,200017,35] 60 [6] [zN] (yI n c x y)=
  let c20:AV:=rat 0 1;let c17:Prop:=az [eu<=eu];let c16:Prop:=az [af<=eu];let c14:Prop:=0<n;let c13:Int:=dG n (fun i=>bu (aA (c i))) x y;let c11:Nat:=2^47;let c9:Nat:=112+1;let c7:Rat:=aV x y;let c6:Prop:=n<2^30;let c4:PP:=c (Int.toNat (0:Int));let c3:Prop:=az [∀(i:Nat),i<n->aW (aA (c i)) (aA (bu (aA (c i))))];let c2:Prop:=0<1;let c15:Nat×(Nat->Rat):=(c4.fst,fun i=>aM (rat (c4.snd i) af));let c12:Prop:=jH n (fun i=>bu (aA (c i))) d c7 y;let c10:Prop:=bG n (fun i=>bu (aA (c i))) d c7 y=[];let c1:List (Rat×Rat):=bG n (fun i=>bu (aA (c i))) d x c7;let c8:Nat:=c1.length;let c19:Nat:=c8+0;let c5:Nat:=c8+1;let c18:Nat:=c5+0;some (aj [c2,c2,∀(i:Nat),i<n->aW (aA (c i)) (aA (bu (aA (c i)))),af<=af,af<=af,c14,c6,x<y,cq n (fun i=>bu (aA (c i))) x,cq n (fun i=>bu (aA (c i))) y] (aj [(c13==0)=false] (aj [(c13==1)=false] (aj [c2,c2,af<=af,af<=af,Sz c7 af,c2] (aj [c2,c2,c3,c16,c17,c14,c6,jH n (fun i=>bu (aA (c i))) d x c7,c1≠[]] (aj [(0:Int)<=0/\Int.toNat (0:Int)<n,c2,cP (fun i=>rat (c4.snd i) af) c4.fst af,eu<=eu,c4.fst<2^40,gb c15 c7,Sz c7 af,af<2^41] (fork (bL (cr c15 c7)==0) (aj [c2,eu<=eu,Sz c7 af,(1:Nat)*6<=2^24,c5*c9*2<=c11] (aj [c2,c2,c3,c17,c16,c14,c6,c12,c10,c18*c9*2<=c11] (leaf ret ([own 163840 6 0 c18],[(163840,au.mk true true 6 c18 fun i=>if i<c5 then if i<c8 then cy c1 i else nth [agg [rat c7 af,rat c7 af]] (agg [c20,c20]) (i-c8+0)else nil)])))) (aj [c2,c2,c3,c17,c16,c14,c6,c12,c10,c19*c9*2<=c11] (leaf ret ([own 139264 6 0 c19],[(139264,au.mk true true 6 c19 fun i=>if i<c8 then cy c1 i else nil)])))))))))):=ah
theorem adf {n d:Nat} {c:Nat->PP} {x y:Rat}:aI T (vJ false true d) [200015,200017,35] 60 [6] [zN] (yI n c x y)=
  let c17:AV:=rat 0 1;let c15:Prop:=az [eu<=eu];let c14:Prop:=az [af<=eu];let c12:Prop:=0<n;let c11:Int:=dG n (fun i=>bu (aA (c i))) x y;let c8:Nat:=2^47;let c7:Nat:=112+1;let c6:Rat:=aV x y;let c5:Prop:=n<2^30;let c4:PP:=c (Int.toNat (0:Int));let c3:Prop:=az [∀(i:Nat),i<n->aW (aA (c i)) (aA (bu (aA (c i))))];let c2:Prop:=0<1;let c13:Nat×(Nat->Rat):=(c4.fst,fun i=>aM (rat (c4.snd i) af));let c10:Prop:=jH n (fun i=>bu (aA (c i))) d c6 y;let c1:List (Rat×Rat):=bG n (fun i=>bu (aA (c i))) d c6 y;let c9:Nat:=c1.length;let c16:Nat:=1+c9;some (aj [c2,c2,∀(i:Nat),i<n->aW (aA (c i)) (aA (bu (aA (c i)))),af<=af,af<=af,c12,c5,x<y,cq n (fun i=>bu (aA (c i))) x,cq n (fun i=>bu (aA (c i))) y] (aj [(c11==0)=false] (aj [(c11==1)=false] (aj [c2,c2,af<=af,af<=af,Sz c6 af,c2] (aj [c2,c2,c3,c14,c15,c12,c5,jH n (fun i=>bu (aA (c i))) d x c6,bG n (fun i=>bu (aA (c i))) d x c6=[]] (aj [(0:Int)<=0/\Int.toNat (0:Int)<n,c2,cP (fun i=>rat (c4.snd i) af) c4.fst af,eu<=eu,c4.fst<2^40,gb c13 c6,Sz c6 af,af<2^41] (fork (bL (cr c13 c6)==0) (aj [c2,eu<=eu,Sz c6 af,(1:Nat)*6<=2^24,c2/\1*c7*2<=c8] (aj [c2,c2,c3,c15,c14,c12,c5,c10,c1≠[],c16*c7*2<=c8] (leaf ret ([own 163840 6 0 c16],[(163840,au.mk true true 6 c16 fun i=>if i<1 then nth [agg [rat c6 af,rat c6 af]] (agg [c17,c17]) (i+0)else cy c1 (i-1+0))])))) (aj [c2,c2,c3,c15,c14,c12,c5,c10,c1≠[],(0:Nat)<c9/\c9*c7*2<=c8] (leaf ret ([own 139264 6 0 c9],[(139264,au.mk true true 6 c9 fun i=>agg [rat (cj c1 (i+0)).fst af,rat (cj c1 (i+0)).snd af])])))))))))):=ah
theorem Qm:bf 136 f136:=bg func136
theorem Rw {x y:Rat}:b9 T xH [] 60 f136 (aH f136) ⟨aU 0 [.rat x af,.rat y af],[],0⟩=
  some (aj [0<1,0<1,af<2^41,af<2^41,-(2:Int)^63<=(1:Int),(1:Int)<2^63,-(2:Int)^63<=(2:Int),(2:Int)<2^63,af+af+1<2^41,(64:Nat)<2^41,0<1] (aj [0<1] (leaf ret [rat ((x+y)*((↑(1:Int):Rat)/(↑(2:Int):Rat))) (af+af+1+64)]))):=ah
theorem Ks:bf 77 f77:=bg func77
theorem Jx {x:Rat}:b9 T gN [] 60 f77 (aH f77) ⟨aU 0 [.rat x af],[],0⟩=
  let c2:AV:=rat x af;let c1:Prop:=0<1;some (aj [c1,c1,c1] (aj [c1] (leaf ret [agg [c2,c2]]))):=ah
theorem IT (x y:Rat):(x+y)*(((1:Int):Rat)/((2:Int):Rat))=aV x y:=rfl
theorem V4:aY P Ma 136:=cO fun⟨x,y,_⟩ K hn=>by
 have hW:=cF
 have hX:=uQ
 refine ck hT Hw hm Qm rfl aX rfl 60 Rw (fun _=>?_) K []
 simp only[ag.all,az]
 exact⟨⟨aa,aa,aa,aa,aa,aa,aa,aa,aa,aa,aa⟩,aa,ej (IT x y) (Sz.more (show Sz (aV x y) af from hn) aa)⟩
theorem wF {x:Rat} (h:Sz x af):aW (.rat x eu) (.rat x af):=ej rfl h
theorem U0:aY P Ka 76:=cO fun⟨a,t,_⟩ K hn=>gW (args:=[aA a,.rat t eu]) (Ji hn.1 hn.2.1 K) rfl ⟨.refl _,wF hn.2.2,trivial⟩ []
theorem Jk:aY P FK 77:=cO fun⟨x,_⟩ K hn=>by
 have h1:aQ P 77 K [.rat x af] [] (aL (dA x x af) []):=by
  refine ck hT gM hm Ks rfl aX rfl 60 Jx (fun _=>?_) K []
  simp only[ag.all,az]
  exact⟨⟨aa,aa,aa⟩,aa,.refl _⟩
 exact gW (args:=[.rat x eu]) h1 rfl ⟨wF hn,trivial⟩ []
def vK (d:Nat):Prop:=∀(n:Nat) (c:Nat->PP) (x y:Rat) (K:Nat),0<n->n<2^30->jH n c d x y->
 (bG n c d x y≠[]->aQ P 75 K [eO n c,.rat x af,.rat y af] [] ⟨.own K 6 0 (bG n c d x y).length,[(K,nC (bG n c d x y))],[]⟩)/\
 (bG n c d x y=[]->aQ P 75 K [eO n c,.rat x af,.rat y af] [] (aL .nil []))
theorem jH.sz {n:Nat} {c:Nat->PP}:∀{d:Nat} {x y:Rat},jH n c d x y->Sz x af/\Sz y af
 |0,_,_,h=>h.elim
 |_+1,_,_,h=>⟨h.2.2.2.1,h.2.2.2.2.1⟩
theorem Mb {d:Nat} (ih:vK d) (b1 b2:Bool):aY P (Eh b1 b2 d) 75:=by
 refine uX fun K args r hk hs=>?_
 split at hs
 ·rename_i v a b
  split at hs
  ·rename_i n c q1 x q2 y q3 e1 e2 e3
   split at hs
   ·simp only[ay]at hs
    subst hs
    intro need
    obtain⟨n1,n2,n3,n4,n5,n6,n7⟩:=need
    obtain⟨z1,z2⟩:=n6.sz
    exact gW ((ih n c x y K n4 n5 n6).1 n7) hk ⟨mG.ok e1 n1,((eU eu).ok e2 n2).trans (wF z1),((eU eu).ok e3 n3).trans (wF z2),trivial⟩ [] trivial
   ·simp only[ay]at hs
    subst hs
    intro need
    obtain⟨n1,n2,n3,n4,n5,n6,n7⟩:=need
    obtain⟨z1,z2⟩:=n6.sz
    exact gW ((ih n c x y K n4 n5 n6).2 n7) hk ⟨mG.ok e1 n1,((eU eu).ok e2 n2).trans (wF z1),((eU eu).ok e3 n3).trans (wF z2),trivial⟩ [] trivial
  ·simp at hs
 ·simp at hs
theorem yw {d:Nat} (ih:vK d) (b1 b2:Bool):bR P (vJ b1 b2 d):=gi (aJ (Mb ih b1 b2) (aJ Bf (aJ V4 (aJ U0 (aJ Jk gM)))))
theorem UI:vK 0:=fun _ _ _ _ _ _ _ h=>h.elim
theorem sZ {K k m:Nat} {l:List (Rat×Rat)} {f:Nat->AV} (hl:m=l.length) (h:∀i,i<l.length->iu (bp [(K,k)]) (f i) (cy l i)):g9 (bp [(K,k)]) [.own k 6 0 m] [.own K 6 0 l.length]/\dU (bp [(K,k)]) ⟨true,true,6,m,f⟩ (nC l):=
 ⟨⟨⟨rfl,eE (by simp[bp,look]) rfl hl⟩,trivial⟩,hH hl.symm fun i hi=>h i aa⟩
theorem SB {d:Nat} (ih:vK d):vK (d+1):=fun n c x y K h1 h2 h=>by
 have hW:=cF
 have hX:=uQ
 obtain⟨o1,o2,o3,o4,o5,o6,o7,o8⟩:=h
 have hrd:∀i,i<n->aW (aA (c i)) (aA (bu (aA (c i)))):=fun i _=>.refl _
 have mn:eJ x y=x:=if_neg (by grind)
 have mx:eI x y=y:=if_pos o1
 refine⟨fun hne=>?_,fun he=>?_⟩
 ·refine(Du hT Ry (ws:=[.own K 6 0 (bG n c (d+1) x y).length]) (fun _=>C3 (us:=[eO n c,.rat x af,.rat y af]) (vs:=[eO n c,.rat x af,.rat y af]) rfl rfl ⟨.refl _,.refl _,.refl _,trivial⟩) aX fun _ cx hk=>?_:aQ P 75 K _ [] ⟨_,_,[]⟩)
  have e0:dG n c x y≠0:=fun h0=>hne (by unfold bG;rw[if_pos h0])
  by_cases e1:dG n c x y=1
  ·have el:bG n c (d+1) x y=[(x,y)]:=by unfold bG;rw[if_neg e0,if_pos e1,mn,mx]
   rw[el]
   refine ax.bO hT (yw ih true true) hm 60 [6] UJ ah ?_
   simp only[ag.all,az,beq_iff_eq,beq_eq_false_iff_ne]
   refine⟨⟨aa,aa,hrd,aa,aa,h1,h2,o1,o2,o3⟩,e0,e1,⟨aa,aa,aa⟩,fun s' hs'=>?_⟩
   have L:=sZ (K:=K) (k:=61440) (l:=[(x,y)]) (f:=fun i=>nth [agg [rat x af,rat y af]] (agg [rat 0 1,rat 0 1]) i) rfl fun i hi=>by
    have hi:i<1:=hi
    obtain rfl:i=0:=aa
    exact fD rfl
   exact⟨.inr trivial,[6],_,[.own 61440 6 0 1],_,61440,_,hs',ah,L.1,rfl,L.2⟩
  ·obtain⟨k1,k2⟩:=o8 e0 e1
   have zm:=k1.sz.2
   have cm:cq n c (aV x y):=by
    cases d with
    |zero=>exact k1.elim
    |succ d=>exact k1.2.2.1
   obtain⟨v1,v2⟩:=cm 0 h1
   have el:bG n c (d+1) x y=bG n c d x (aV x y)++(if cr (c 0) (aV x y)=0 then(aV x y,aV x y)::bG n c d (aV x y) y else bG n c d (aV x y) y):=by
    show(if dG n c x y=0 then _ else _)=_
    rw[if_neg e0,if_neg e1]
   have lb:∀{d:Nat} {x y:Rat},jH n c d x y->(bG n c d x y).length<2^30:=fun {d x y} h=>by
    cases d with
    |zero=>exact h.elim
    |succ d=>exact h.2.2.2.2.2.2.1
   have lb1:=lb k1
   have lb2:=lb k2
   have lb1':(bG n (fun i=>bu (aA (c i))) d x (aV x y)).length<2^30:=lb1
   have lb2':(bG n (fun i=>bu (aA (c i))) d (aV x y) y).length<2^30:=lb2
   have hlen:=o6
   rw[el]
   rw[el,List.length_append]at hlen
   have cc:bL (cr (c 0) (aV x y))=0↔cr (c 0) (aV x y)=0:=by
    rcases wG (cr (c 0) (aV x y))with h|h|h<;>unfold bL at h ⊢<;>grind
   by_cases l1:bG n c d x (aV x y)=[]
   ·have l2:bG n c d (aV x y) y≠[]:=fun l2=>by
     rw[l1,l2]at hlen
     split at hlen
     ·exact e1 (by simpa using hlen.symm)
     ·exact e0 (by simpa using hlen.symm)
    have l2p:0<(bG n (fun i=>bu (aA (c i))) d (aV x y) y).length:=List.length_pos_iff.2 l2
    refine ax.bO hT (yw ih false true) hm 60 [6] adf ah ?_
    simp only[ag.all,az,beq_iff_eq,beq_eq_false_iff_ne]
    refine⟨⟨aa,aa,hrd,aa,aa,h1,h2,o1,o2,o3⟩,e0,e1,⟨aa,aa,aa,aa,zm,aa⟩,⟨aa,aa,hrd,aa,aa,h1,h2,k1,l1⟩,⟨⟨aa,h1⟩,aa,dQ (a:=c 0),aa,v1,v2,zm,aa⟩,fun hb=>?_,fun hb=>?_⟩
    ·refine⟨⟨aa,aa,zm,aa,aa,aa⟩,⟨aa,aa,hrd,aa,aa,h1,h2,k2,l2,aa⟩,fun s' hs'=>?_⟩
     rw[l1,if_pos (cc.1 hb)]
     have L:=sZ (K:=K) (k:=163840) (l:=[]++(aV x y,aV x y)::bG n c d (aV x y) y) (f:=fun i=>if i<1 then nth [agg [rat (aV x y) af,rat (aV x y) af]] (agg [rat 0 1,rat 0 1]) (i+0)else cy (bG n c d (aV x y) y) (i-1+0)) (m:=1+(bG n c d (aV x y) y).length) (by simp;omega) fun i hi=>by
      cases i with
      |zero=>exact fD rfl
      |succ i=>rw[if_neg aa];exact fD rfl
     exact⟨.inr trivial,[6],_,[.own 163840 6 0 _],_,163840,_,hs',ah,L.1,rfl,L.2⟩
    ·refine⟨⟨aa,aa,hrd,aa,aa,h1,h2,k2,l2,aa,aa⟩,fun s' hs'=>?_⟩
     rw[l1,if_neg fun h0=>hb (cc.2 h0)]
     have L:=sZ (K:=K) (k:=139264) (l:=[]++bG n c d (aV x y) y) (f:=fun i=>agg [rat (cj (bG n c d (aV x y) y) (i+0)).fst af,rat (cj (bG n c d (aV x y) y) (i+0)).snd af]) (m:=(bG n c d (aV x y) y).length) rfl fun i hi=>fD rfl
     exact⟨.inr trivial,[6],_,[.own 139264 6 0 _],_,139264,_,hs',ah,L.1,rfl,L.2⟩
   ·by_cases l2:bG n c d (aV x y) y=[]
    ·refine ax.bO hT (yw ih true false) hm 60 [6] aah ah ?_
     simp only[ag.all,az,beq_iff_eq,beq_eq_false_iff_ne]
     refine⟨⟨aa,aa,hrd,aa,aa,h1,h2,o1,o2,o3⟩,e0,e1,⟨aa,aa,aa,aa,zm,aa⟩,⟨aa,aa,hrd,aa,aa,h1,h2,k1,l1⟩,⟨⟨aa,h1⟩,aa,dQ (a:=c 0),aa,v1,v2,zm,aa⟩,fun hb=>?_,fun hb=>?_⟩
     ·refine⟨⟨aa,aa,zm,aa,aa⟩,⟨aa,aa,hrd,aa,aa,h1,h2,k2,l2,aa⟩,fun s' hs'=>?_⟩
      rw[l2,if_pos (cc.1 hb)]
      have L:=sZ (K:=K) (k:=163840) (l:=bG n c d x (aV x y)++[(aV x y,aV x y)]) (f:=fun i=>if i<(bG n c d x (aV x y)).length+1 then if i<(bG n c d x (aV x y)).length then cy (bG n c d x (aV x y)) i else nth [agg [rat (aV x y) af,rat (aV x y) af]] (agg [rat 0 1,rat 0 1]) (i-(bG n c d x (aV x y)).length+0)else nil) (m:=(bG n c d x (aV x y)).length+1+0) (by simp) fun i hi=>by
       have hi:i<(bG n c d x (aV x y)).length+1:=by simpa using hi
       rw[if_pos hi]
       unfold cy
       rw[tO]
       by_cases h:i<(bG n c d x (aV x y)).length
       ·rw[if_pos h,if_pos h];exact fD rfl
       ·rw[if_neg h,if_neg h,show i-(bG n c d x (aV x y)).length=0 by omega];exact fD rfl
      exact⟨.inr trivial,[6],_,[.own 163840 6 0 _],_,163840,_,hs',ah,L.1,rfl,L.2⟩
     ·refine⟨⟨aa,aa,hrd,aa,aa,h1,h2,k2,l2,aa⟩,fun s' hs'=>?_⟩
      rw[l2,if_neg fun h0=>hb (cc.2 h0)]
      have L:=sZ (K:=K) (k:=139264) (l:=bG n c d x (aV x y)++[]) (f:=fun i=>if i<(bG n c d x (aV x y)).length then cy (bG n c d x (aV x y)) i else nil) (m:=(bG n c d x (aV x y)).length+0) (by simp) fun i hi=>by
       have hi:i<(bG n c d x (aV x y)).length:=by simpa using hi
       rw[if_pos hi,List.append_nil];exact fD rfl
      exact⟨.inr trivial,[6],_,[.own 139264 6 0 _],_,139264,_,hs',ah,L.1,rfl,L.2⟩
    ·refine ax.bO hT (yw ih true true) hm 60 [6] Zk ah ?_
     simp only[ag.all,az,beq_iff_eq,beq_eq_false_iff_ne]
     refine⟨⟨aa,aa,hrd,aa,aa,h1,h2,o1,o2,o3⟩,e0,e1,⟨aa,aa,aa,aa,zm,aa⟩,⟨aa,aa,hrd,aa,aa,h1,h2,k1,l1⟩,⟨⟨aa,h1⟩,aa,dQ (a:=c 0),aa,v1,v2,zm,aa⟩,fun hb=>?_,fun hb=>?_⟩
     ·refine⟨⟨aa,aa,zm,aa,aa⟩,⟨aa,aa,hrd,aa,aa,h1,h2,k2,l2,aa⟩,fun s' hs'=>?_⟩
      rw[if_pos (cc.1 hb)]
      have L:=sZ (K:=K) (k:=163840) (l:=bG n c d x (aV x y)++(aV x y,aV x y)::bG n c d (aV x y) y) (f:=fun i=>if i<(bG n c d x (aV x y)).length+1 then if i<(bG n c d x (aV x y)).length then cy (bG n c d x (aV x y)) i else nth [agg [rat (aV x y) af,rat (aV x y) af]] (agg [rat 0 1,rat 0 1]) (i-(bG n c d x (aV x y)).length+0)else cy (bG n c d (aV x y) y) (i-((bG n c d x (aV x y)).length+1)+0)) (m:=(bG n c d x (aV x y)).length+1+(bG n c d (aV x y) y).length) (by simp;omega) fun i hi=>by
       unfold cy
       rw[tO]
       by_cases h:i<(bG n c d x (aV x y)).length
       ·rw[if_pos aa,if_pos h,if_pos h];exact fD rfl
       ·rw[if_neg h,if_neg h]
        by_cases h':i<(bG n c d x (aV x y)).length+1
        ·rw[if_pos h',show i-(bG n c d x (aV x y)).length=0 by omega];exact fD rfl
        ·rw[if_neg h',show i-(bG n c d x (aV x y)).length=i-((bG n c d x (aV x y)).length+1)+1 by omega];exact fD rfl
      exact⟨.inr trivial,[6],_,[.own 163840 6 0 _],_,163840,_,hs',ah,L.1,rfl,L.2⟩
     ·refine⟨⟨aa,aa,hrd,aa,aa,h1,h2,k2,l2,aa⟩,fun s' hs'=>?_⟩
      rw[if_neg fun h0=>hb (cc.2 h0)]
      have L:=sZ (K:=K) (k:=139264) (l:=bG n c d x (aV x y)++bG n c d (aV x y) y) (f:=fun i=>if i<(bG n c d x (aV x y)).length then cy (bG n c d x (aV x y)) i else cy (bG n c d (aV x y) y) (i-(bG n c d x (aV x y)).length+0)) (m:=(bG n c d x (aV x y)).length+(bG n c d (aV x y) y).length) (by simp) fun i hi=>by
       unfold cy
       rw[tO]
       by_cases h:i<(bG n c d x (aV x y)).length
       ·rw[if_pos h,if_pos h];exact fD rfl
       ·rw[if_neg h,if_neg h];exact fD rfl
      exact⟨.inr trivial,[6],_,[.own 139264 6 0 _],_,139264,_,hs',ah,L.1,rfl,L.2⟩
 ·have e0:dG n c x y=0:=by rw[he]at o6;exact o6.symm
  refine ck hT (yw ih true true) hm Ry rfl aX rfl 60 ae4 (fun _=>?_) K []
  simp only[ag.all,az,beq_iff_eq]
  exact⟨⟨aa,aa,hrd,aa,aa,h1,h2,o1,o2,o3⟩,e0,.refl _⟩
theorem Nh:∀d,vK d
 |0=>UI
 |d+1=>SB (Nh d)
def dH (c:PP):Nat->PP
 |0=>c
 |j+1=>bW (dH c j) (bC (dH c j))
def ko (c:PP) (x y:Rat):Bool:=if x=y then decide (cr c x=0)else decide (dG (bA c) (bh c) x y≠0)
def kA (c:PP) (x y:Rat):Nat->Nat->Nat
 |0,j=>j
 |f+1,j=>if 1<(dH c j).1 then(if ko (dH c j) x y=true then kA c x y f (j+1)else j)else j
def v5 (c:PP) (x y:Rat):Prop:=c.1<2^30/\x<=y/\∀j,1<(dH c j).1->Trim (dH c j)/\(dH c j).1<2^30/\gb (dH c j) x/\lM (dH c j)/\bA (dH c j)<2^30/\cq (bA (dH c j)) (bh (dH c j)) x/\cq (bA (dH c j)) (bh (dH c j)) y/\cN ((dH c j).1-1) (cR (dH c j).2)/\sJ (dH c j) (bC (dH c j))
def yE:Spec:=dD (kC (kL af) kN) (fun a=>eO (bA a.1) (bh a.1)) fun a=>[lM a.1]
def AW:bk:=nG::(76,mB)::(63,yE)::(62,x6)::(125,rR)::(100,GO)::gN
abbrev AE:Code:=aH f78
abbrev DW (c:PP) (j:Nat):List AV:=[aA (dH c j),.ptr 0 0 6 0 [],.int .i64 j]
abbrev D9 (x y:Rat):aE:=[(0,⟨false,true,6,1,fun _=>dA x y af⟩)]
def J6:Spec:=dD (kC (kL af) (kC (p8 af) kN)) (fun a=>.int .i64 (kA a.1 a.2.1.1 a.2.1.2 a.1.1 0:Nat)) fun a=>[v5 a.1 a.2.1.1 a.2.1.2]
def uq (b:Bool) (d:Nat):bk:=nG::(61,uu)::(63,yE)::(75,Eh b b d)::(76,mB)::(78,J6)::(77,FK)::gN
abbrev pC:Code:=aH f19
abbrev pe:List Nat:=[2,3,4,7,8,9]
abbrev sM (c:PP) (m i:Nat):List AV:=[.nil,.int .i64 0,aA c,.own 0 6 0 m,.own 1 7 0 i,.int .i64 i]
abbrev tW (l:List (Rat×Rat)) (g:Nat->Nat) (i:Nat):aE:=[(1,⟨true,true,7,i,nM l g⟩),(0,nC l)]
theorem ace:bf 78 f78:=bg func78
theorem afO {c:PP} {x y:Rat}:aI T AW [] 60 [0,3,5] (before AE [1,1,0]) ⟨aU 0 [aA c,dA x y af],[],0⟩=
  let c1:Nat:=(de (dA x y af)).size;some (leaf normal ([ak 3 c.fst fun i=>rat (c.snd i) af,ptr 0 0 c1 0 [],int i64 0],[(0,au.mk false true c1 1 fun x_1=>agg [rat x af,rat y af])])):=ah
theorem afn {c:PP} {j:Nat} {x y:Rat}:aI T AW [8,13,19,27] 60 [0,3,5] [part AE [1,1,0,0,0]] ⟨aC [0,3,5] (DW c j),D9 x y,1⟩=
  let c15:PP:=dH c j;let c13:Nat:=2^30;let c12:Int:=(↑j:Int)+1;let c11:AV:=ptr 0 0 6 0 [];let c10:Prop:=af<2^41;let c9:Prop:=0<1;let c7:Nat×au:=(0,au.mk false true 6 1 fun x_1=>agg [rat x af,rat y af]);let c8:Nat:=c15.fst;let c16:Prop:=c8<2^40;let c6:Prop:=cP (fun i=>rat (c15.snd i) af) c8 af;let c4:ag (List AV×aE):=leaf (exit 0) ([ak 3 c8 fun i=>rat (c15.snd i) af,c11,int i64 (↑j:Int)],[c7]);let c3:Nat:=bK (cR fun i=>aM (rat (c15.snd i) af)) (c8-1);let c2:Nat×(Nat->Rat):=(c8,fun i=>aM (rat (c15.snd i) af));let c5:Nat×(Nat->Rat):=(c3,fun i=>aM (rat (cR (fun i=>aM (rat (c15.snd i) af)) i) af));let c14:PP:=(bT (c2,c5) c3).fst;let c1:ag (List AV×aE):=aj [-(2:Int)^63<=c12/\c12<2^63] (aj [c6,c16,cN (c8-1) (cR fun i=>aM (rat (c15.snd i) af)),c6,cP (fun i=>rat (cR (fun i=>aM (rat (c15.snd i) af)) i) af) c3 af,c8<c13,c3<c13,Trim c2,Trim c5,sJ c2 c5] (leaf normal ([ak 3 c14.fst fun i=>rat (cL c14.fst c14.snd i) af,c11,int i64 c12],[c7])));some (fork (decide ((↑c8:Int)>1)) (aj [c9,c9,c10,c10] (fork (decide (x=y)) (aj [c9,c6,af<=af,c16,gb c2 x,c10] (fork (bL (cr c2 x)!=0) c4 c1)) (aj [c6,lM c2,c9,c9,∀(i:Nat),i<bA c2->aW (aA (bh c2 i)) (aA (bu (aA (bh c2 i)))),af<=af,af<=af,(0:Nat)<bA c2,bA c2<c13,x<y,cq (bA c2) (fun i=>bu (aA (bh c2 i))) x,cq (bA c2) (fun i=>bu (aA (bh c2 i))) y] (fork (dG (bA c2) (fun i=>bu (aA (bh c2 i))) x y==0) c4 c1)))) c4):=ah
theorem aid {c:PP} {j:Nat} {x y:Rat}:cQ T AW [] 60 f78 [part AE [1,1,1]] ⟨aC [0,3,5] (DW c j),D9 x y,1⟩=
  some (leaf ret [int i64 (↑j:Int)]):=ah
theorem KV:bf 19 f19:=bg func19
abbrev lS:AV:=agg [rat 0 1,rat 0 1]
abbrev Dj:AV:=agg [rat ((1:Int):Rat) af,rat ((1:Int):Rat) af]
abbrev qX:Nat:=Max.max 1 (bV (Int.natAbs (1:Int)))
def p5 (p:PP) (k m:Nat) (f:Nat->AV):ag (List AV×aE):=leaf normal ([nil,int i64 0,aA (aF p),own k 6 0 m,nil,int i64 0],[(k,au.mk true true 6 m f)])
abbrev Be (p:PP):List Prop:=[0<1,aR (aF p),qX<=af,(aF p).1<2^40,gb (aF p) ((1:Int):Rat),af<2^41]
abbrev eiW (p:PP) (d:Nat) (L:List (Rat×Rat)) (e:Prop):List Prop:=[0<1,az [∀i,i<bA (aF p)->aW (aA (bh (aF p) i)) (aA (bu (aA (bh (aF p) i))))],az [1<=eu],az [qX<=eu],0<bA (aF p),bA (aF p)<2^30,jH (bA (aF p)) (bh (aF p)) d 0 ((1:Int):Rat),e]
def BS (p:PP) (d:Nat) (e:Prop) (L:List (Rat×Rat)) (t:ag (List AV×aE)):ag (List AV×aE):=aj [aR p,kD p] (fork (((aF p).1:Int)==0) (leaf ret ([nil,int i64 3,aA (aF p),tuple [],tuple [],tuple []],[]))
 (aj [aR (aF p),lM (aF p)] (aj [-(2:Int)^63<=(1:Int),(1:Int)<2^63,0<1] (aj (eiW p d L e) (aj [aR (aF p),1<=af,(aF p).1<2^40,gb (aF p) 0,af<2^41] t)))))
theorem abo {d:Nat} {p:PP} {L:List (Rat×Rat)} (hL:L=bG (bA (aF p)) (bh (aF p)) d 0 ((1:Int):Rat)):aI T (uq true d) [14,26,35] 60 pe (before pC [1,1,1,1,1,1,1,1,1,0,1]) ⟨aU 0 [aA p],[],0⟩=
  some (BS p d (L≠[]) L (fork (bL (cr (aF p) 0)==0)
   (aj [1*6<=2^24,(1+L.length)*(112+1)*2<=2^47] (aj (Be p) (fork (bL (cr (aF p) ((1:Int):Rat))==0) (aj [0<1,qX<=eu,Sz ((1:Int):Rat) af,1*6<=2^24,(1+L.length+1)*(112+1)*2<=2^47] (p5 p 155648 (1+L.length+1) fun i=>if i<1+L.length then if i<1 then nth [lS] lS i else cy L (i-1+0)else nth [Dj] lS (i-(1+L.length)+0))) (p5 p 110592 (1+L.length) fun i=>if i<1 then nth [lS] lS i else cy L (i-1+0)))))
   (aj (Be p) (fork (bL (cr (aF p) ((1:Int):Rat))==0) (aj [0<1,qX<=eu,Sz ((1:Int):Rat) af,1*6<=2^24,(L.length+1)*(112+1)*2<=2^47] (p5 p 135168 (L.length+1) fun i=>if i<L.length then cy L i else nth [Dj] lS (i-L.length+0))) (p5 p 69632 L.length fun i=>cy L i))))):=by subst hL;kernel_rfl
theorem ZK {d:Nat} {p:PP} {L:List (Rat×Rat)} (hL:L=bG (bA (aF p)) (bh (aF p)) d 0 ((1:Int):Rat)):aI T (uq false d) [14,26,35] 60 pe (before pC [1,1,1,1,1,1,1,1,1,0,1]) ⟨aU 0 [aA p],[],0⟩=
  some (BS p d (L=[]) L (fork (bL (cr (aF p) 0)==0)
   (aj [1*6<=2^24,(1+0)*(112+1)*2<=2^47] (aj (Be p) (fork (bL (cr (aF p) ((1:Int):Rat))==0) (aj [0<1,qX<=eu,Sz ((1:Int):Rat) af,1*6<=2^24,(1+0+1)*(112+1)*2<=2^47] (p5 p 155648 2 fun i=>if i<1+0 then if i<1 then nth [lS] lS i else nil else nth [Dj] lS (i-(1+0)+0))) (p5 p 110592 1 fun i=>if i<1 then nth [lS] lS i else nil))))
   (aj (Be p) (fork (bL (cr (aF p) ((1:Int):Rat))==0) (aj [0<1,qX<=eu,Sz ((1:Int):Rat) af,1*6<=2^24,0<1/\1*(112+1)*2<=2^47] (p5 p 135168 1 fun i=>nth [Dj] lS (i+0))) (leaf normal ([nil,int i64 0,aA (aF p),nil,nil,int i64 0],[])))))):=by subst hL;kernel_rfl
theorem aeQ {d m i:Nat} {c:PP} {l:List (Rat×Rat)} {g:Nat->Nat}:aI T (uq true d) [44] 60 pe [part pC [1,1,1,1,1,1,1,1,1,0,1,0,0]] ⟨aC pe (sM c m i),tW l g i,2⟩=
  let c13:AV:=rat 0 1;let c11:Nat×(Nat->Rat):=(c.fst,fun i=>aM (rat (c.snd i) af));let c9:AV:=int i64 0;let c8:AV:=own 0 6 0 m;let c4:AV:=ak 3 c.fst fun i=>rat (c.snd i) af;let c3:Int:=(↑i:Int);let c2:Nat×au:=(0,au.mk true true 6 l.length fun i=>agg [rat (cj l i).fst af,rat (cj l i).snd af]);let c12:Int:=c3+1;let c10:Prop:=(0:Int)<=c3/\c3.toNat<m;let c7:Nat:=c3.toNat+0;let c1:Rat×Rat:=cj l c7;let c6:AV:=rat c1.snd af;let c5:AV:=rat c1.fst af;some (fork (decide (c3<(↑m:Int))) (aj [c10,c7<l.length,c10,c7<l.length,cP (fun i=>rat (c.snd i) af) c.fst af,aW c5 (rat (aM c5) af),aW c6 (rat (aM c6) af),v5 c11 (aM c5) (aM c6),(1:Nat)*7<=2^24,(i+1)*((120:Nat)+1)*2<=2^47] (aj [-(2:Int)^63<=c12/\c12<2^63] (leaf normal ([nil,c9,c4,c8,own 69634 7 0 (i+1),int i64 c12],[(69634,au.mk true true 7 (i+1) fun i_1=>if i_1<i then nM l g i_1 else nth [agg [agg [c5,c6],int i64 (↑(kA c11 (aM c5) (aM c6) c.fst 0):Int)]] (agg [agg [c13,c13],c9]) (i_1-i+0)),c2])))) (leaf (exit 0) ([nil,c9,c4,c8,own 1 7 0 i,int i64 c3],[(1,au.mk true true 7 i fun j=>agg [agg [rat (cj l j).fst af,rat (cj l j).snd af],int i64 (↑(g j):Int)]),c2]))):=ah
theorem RV {d m i:Nat} {c:PP} {l:List (Rat×Rat)} {g:Nat->Nat}:aI T (uq false d) [44] 60 pe [part pC [1,1,1,1,1,1,1,1,1,0,1,0,0]] ⟨aC pe (sM c m i),tW l g i,2⟩=
  let c13:AV:=rat 0 1;let c11:Nat×(Nat->Rat):=(c.fst,fun i=>aM (rat (c.snd i) af));let c9:AV:=int i64 0;let c8:AV:=own 0 6 0 m;let c4:AV:=ak 3 c.fst fun i=>rat (c.snd i) af;let c3:Int:=(↑i:Int);let c2:Nat×au:=(0,au.mk true true 6 l.length fun i=>agg [rat (cj l i).fst af,rat (cj l i).snd af]);let c12:Int:=c3+1;let c10:Prop:=(0:Int)<=c3/\c3.toNat<m;let c7:Nat:=c3.toNat+0;let c1:Rat×Rat:=cj l c7;let c6:AV:=rat c1.fst af;let c5:AV:=rat c1.snd af;some (fork (decide (c3<(↑m:Int))) (aj [c10,c7<l.length,c10,c7<l.length,cP (fun i=>rat (c.snd i) af) c.fst af,aW c6 (rat (aM c6) af),aW c5 (rat (aM c5) af),v5 c11 (aM c6) (aM c5),(1:Nat)*7<=2^24,(i+1)*((120:Nat)+1)*2<=2^47] (aj [-(2:Int)^63<=c12/\c12<2^63] (leaf normal ([nil,c9,c4,c8,own 69634 7 0 (i+1),int i64 c12],[(69634,au.mk true true 7 (i+1) fun i_1=>if i_1<i then nM l g i_1 else nth [agg [agg [c6,c5],int i64 (↑(kA c11 (aM c6) (aM c5) c.fst 0):Int)]] (agg [agg [c13,c13],c9]) (i_1-i+0)),c2])))) (leaf (exit 0) ([nil,c9,c4,c8,own 1 7 0 i,int i64 c3],[(1,au.mk true true 7 i fun j=>agg [agg [rat (cj l j).fst af,rat (cj l j).snd af],int i64 (↑(g j):Int)]),c2]))):=ah
theorem aay {d m i:Nat} {c:PP} {l:List (Rat×Rat)} {g:Nat->Nat}:cQ T (uq false d) [] 60 f19 [part pC [1,1,1,1,1,1,1,1,1,1]] ⟨aC pe (sM c m i),tW l g i,2⟩=
  some (leaf ret [ak 7 i fun i=>agg [agg [rat (cj l (i+0)).fst af,rat (cj l (i+0)).snd af],int i64 (↑(g (i+0)):Int)],int i64 0]):=ah
theorem aap {d m i:Nat} {c:PP} {l:List (Rat×Rat)} {g:Nat->Nat}:cQ T (uq true d) [] 60 f19 [part pC [1,1,1,1,1,1,1,1,1,1]] ⟨aC pe (sM c m i),tW l g i,2⟩=
  some (leaf ret [ak 7 i fun i=>agg [agg [rat (cj l (i+0)).fst af,rat (cj l (i+0)).snd af],int i64 (↑(g (i+0)):Int)],int i64 0]):=ah
theorem IF {c:PP} (hc:eH c):∀e j x y,j+e=cH->1<=e->jx j x y->jH (bA c) (bh c) e x y
 |0,_,_,_,_,h,_=>absurd h (by decide)
 |e+1,j,x,y,hj,he1,h=>by
  have hD:=nE
  have hW:=cF
  have hlk:=CL hc (e+1) j x y hj he1 h
  have hlen:=jO.len hc (e+1) h.lt hlk
  have hle:=Rr hc.xE x y
  have sz:∀{z},bZ ((2^j:Nat):Int) j z->Sz z af:=fun hz=>(hz.sz (by have:=Nat.pow_pos (n:=j) (show 0<2 by decide);omega) (e:=j) (by rw[Int.natAbs_natCast];exact Nat.le_refl _)).more aa
  obtain⟨k1,k2,k3⟩:=hlk
  refine⟨h.lt,k1,k2,sz h.nx,sz h.ny,by rw[B9];exact hlen,aa,fun h0 h1=>?_⟩
  obtain⟨a,b⟩:=h.Gk
  rcases Nat.eq_zero_or_pos e with he|he
  ·rw[B9]at h0 h1
   rcases h.Pq hc aa with h2|h2
   ·exact absurd h2 h0
   ·exact absurd h2 h1
  ·exact⟨IF hc e (j+1) _ _ aa he a,IF hc e (j+1) _ _ aa he b⟩
theorem BZ:aY P yE 63:=akf
theorem X0:bR P AW:=gi (aJ wI (aJ BZ (aJ Bf (aJ Gj (aJ K7 gM)))))
theorem oV {q:Rat}:bL q=0↔q=0:=by
 rcases wG q with h|h|h<;>unfold bL at h ⊢<;>grind
theorem aaY {c:PP} {x y:Rat} {j:Nat} (h:¬(1<(dH c j).1/\ko (dH c j) x y=true)) (f:Nat):kA c x y f j=j:=by
 cases f with
 |zero=>rfl
 |succ f=>
  unfold kA
  by_cases h1:1<(dH c j).1
  ·rw[if_pos h1,if_neg fun h2=>h ⟨h1,h2⟩]
  ·rw[if_neg h1]
theorem abJ {c:PP} {x y:Rat} (h:v5 c x y) (K:Nat):aQ P 78 K [aA c,dA x y af] [] (aL (.int .i64 (kA c x y c.1 0:Nat)) []):=by
 have hW:=cF
 obtain⟨h30,hxy,hall⟩:=h
 refine jc (r:=aL (.int .i64 (kA c x y c.1 0:Nat)) []) hT X0 hm ace rfl aX rfl [1,1,0] (i:=0) (y:=part AE [1,1,0,0,0]) (z:=part AE [1,1,1]) ah ah ah (f1:=[]) (f2:=[8,13,19,27]) (f3:=[]) 60 [0,3,5] 1
  (fun j:Nat=>DW c j) (fun _=>D9 x y) (fun j=>(dH c j).1+j<=c.1/\kA c x y (c.1-j) j=kA c x y c.1 0) (fun j=>j=kA c x y c.1 0) (fun j=>c.1-j) (fun _=>⟨⟨_,afO,?_⟩,fun j ⟨j1,j2⟩=>⟨_,afn,?_⟩,fun j hj=>⟨_,aid,?_⟩⟩) K []
 ·simp only[ag.all,az]
  exact⟨0,⟨aT,rfl⟩,[(0,0)],rfl,rfl,rfl,cG trivial⟩
 ·have hrd:∀i,i<bA (dH c j)->aW (aA (bh (dH c j) i)) (aA (bu (aA (bh (dH c j) i)))):=fun i _=>.refl _
  have ex:∀{e:Prop},¬(1<(dH c j).1/\ko (dH c j) x y=true)->j=kA c x y c.1 0:=fun hn=>by rw[<-j2,aaY hn]
  simp only[ag.all,az,bB,bD,bne_iff_ne,ne_eq,bne_eq_false_iff_eq,beq_iff_eq,beq_eq_false_iff_ne]
  refine⟨fun hl=>?_,fun hl=>⟨rfl,j,ex (e:=True) (fun hh=>hl (by have:=hh.1;omega)),[(0,0)],rfl,rfl,rfl,cG trivial⟩⟩
  have hl1:1<(dH c j).1:=aa
  obtain⟨t1,t2,t3,t4,t5,t6,t7,t8,t9⟩:=hall j hl1
  have hgl:=Qa t1 hl1
  have nx:ko (dH c j) x y=true->(dH c (j+1)).1+(j+1)<=c.1/\kA c x y (c.1-(j+1)) (j+1)=kA c x y c.1 0:=fun hh=>by
   refine⟨by have:(dH c (j+1)).1<(dH c j).1:=hgl;omega,?_⟩
   rw[<-j2,show c.1-j=(c.1-(j+1))+1 by omega]
   conv=>rhs;unfold kA
   rw[if_pos hl1,if_pos hh]
  have dl:(bC (dH c j)).1<=(dH c j).1-1:=Ck
  have tl:∀{P1:Prop},ko (dH c j) x y=true->-(2:Int)^63<=(j:Int)+1/\(j:Int)+1<(2:Int)^63:=fun _=>aa
  refine⟨⟨aa,aa,aa,aa⟩,fun he=>?_,fun he=>?_⟩
  ·have hh:ko (dH c j) x y=decide (cr (dH c j) x=0):=if_pos he
   refine⟨⟨aa,dQ (a:=dH c j),aa,aa,t3,aa⟩,fun hv=>⟨rfl,j,ex (e:=True) (fun h2=>hv (oV.2 (of_decide_eq_true (hh▸h2.2)))),[(0,0)],rfl,rfl,rfl,cG trivial⟩,fun hv=>?_⟩
   have hh2:ko (dH c j) x y=true:=by rw[hh];exact decide_eq_true (oV.1 hv)
   exact⟨aa,⟨dQ (a:=dH c j),aa,t8,dQ (a:=dH c j),dQ (a:=bC (dH c j)),t2,by show(bC (dH c j)).1<_;omega,t1,dZ,t9⟩,j+1,nx hh2,by dsimp only;omega,[(0,0)],rfl,by rw[show(j:Int)+1=((j+1:Nat):Int) by omega];rfl,rfl,cG trivial⟩
  ·have hh:ko (dH c j) x y=decide (dG (bA (dH c j)) (bh (dH c j)) x y≠0):=if_neg he
   have hlt:x<y:=by grind
   refine⟨⟨dQ (a:=dH c j),t4,aa,aa,hrd,aa,aa,Nat.succ_pos _,t5,hlt,t6,t7⟩,fun hv=>⟨rfl,j,ex (e:=True) (fun h2=>(of_decide_eq_true (hh▸h2.2):dG _ _ x y≠0) hv),[(0,0)],rfl,rfl,rfl,cG trivial⟩,fun hv=>?_⟩
   have hh2:ko (dH c j) x y=true:=by rw[hh];exact decide_eq_true hv
   exact⟨aa,⟨dQ (a:=dH c j),aa,t8,dQ (a:=dH c j),dQ (a:=bC (dH c j)),t2,by show(bC (dH c j)).1<_;omega,t1,dZ,t9⟩,j+1,nx hh2,by dsimp only;omega,[(0,0)],rfl,by rw[show(j:Int)+1=((j+1:Nat):Int) by omega];rfl,rfl,cG trivial⟩
 ·subst hj
  simp only[ag.all,az]
  exact .refl _
theorem agL:aY P J6 78:=cO fun⟨_,⟨_,_⟩,_⟩ K hn=>abJ hn K
theorem M5 (b:Bool) (d:Nat):bR P (uq b d):=gi (aJ OV (aJ BZ (aJ (Mb (Nh d) b b) (aJ wI (aJ agL (aJ Jk gM))))))
def dY (d:Nat) (p:PP):List (Rat×Rat):=if(aF p).1=0 then []else(if cr (aF p) 0=0 then [(0,0)]else [])++bG (bA (aF p)) (bh (aF p)) d 0 ((1:Int):Rat)++(if cr (aF p) ((1:Int):Rat)=0 then [(((1:Int):Rat),((1:Int):Rat))]else [])
def uf (d:Nat) (p:PP) (i:Nat):Nat:=kA (aF p) (cj (dY d p) i).1 (cj (dY d p) i).2 (aF p).1 0
abbrev uV (d:Nat) (p:PP):AV:=.tuple [.ak 7 (dY d p).length (nM (dY d p) (uf d p)),.int .i64 (if(aF p).1=0 then 3 else 0)]
def Cs (d:Nat) (p:PP):Prop:=kD p/\((aF p).1≠0->lM (aF p)/\bA (aF p)<2^30/\jH (bA (aF p)) (bh (aF p)) d 0 ((1:Int):Rat)/\gb (aF p) 0/\gb (aF p) ((1:Int):Rat)/\(aF p).1<2^30/\(dY d p).length<2^30/\∀i,i<(dY d p).length->v5 (aF p) (cj (dY d p) i).1 (cj (dY d p) i).2)
theorem wD {rl:List (Nat×Nat)} {v:AV} {l:List (Rat×Rat)} {i:Nat} (h:v=cy l i):nS rl v (cy l i):=by subst h;exact bN rfl rfl
theorem su {c:PP} {l:List (Rat×Rat)} {g:Nat->Nat} {k m:Nat} {f:Nat->AV} (hk:jb 2 [(0,k)]=true) (hm:m=l.length) (hf:∀i,i<l.length->nS [(0,k)] (f i) (cy l i)):
  dS [] ([nil,int i64 0,aA c,own k 6 0 m,nil,int i64 0],[(k,au.mk true true 6 m f)]) (sM c l.length 0) (tW l g 0) 2:=by
 subst hm
 exact⟨[(0,k)],by rw[hk];rfl,rfl,rfl,kZ rfl aa aa (br rfl (by simp[look]) rfl hf trivial)⟩
theorem BF {rl:List (Nat×Nat)}:nS rl lS (dA 0 0 af):=.inr ⟨rfl,mh ⟨dy rfl (by decide),dy rfl (by decide),trivial⟩⟩
theorem Rn {z:Rat×Rat} {L:List (Rat×Rat)} {i:Nat}:cj ([z]++L) i=if i<1 then z else cj L (i-1):=by
 rw[tO]
 cases i with
 |zero=>rfl
 |succ i=>rfl
theorem acn {d:Nat} {p:PP} (h:Cs d p) (K:Nat):aQ P 19 K [aA p] [] (aL (uV d p) []):=by
 have hW:=cF
 have hX:=uQ
 obtain⟨hof,hall⟩:=h
 have hz1:Sz ((1:Int):Rat) af:=(AK (y:=0) (by decide) (by decide)).more aa
 have hN:qX<=af:=by rw[hW];decide
 have hN2:qX<=eu:=aa
 obtain⟨L,hL⟩:∃L,L=bG (bA (aF p)) (bh (aF p)) d 0 ((1:Int):Rat):=⟨_,rfl⟩
 have hrd:∀i,i<bA (aF p)->aW (aA (bh (aF p) i)) (aA (bu (aA (bh (aF p) i)))):=fun i _=>.refl _
 have eL:(aF p).1≠0->dY d p=(if cr (aF p) 0=0 then [(0,0)]else [])++L++(if cr (aF p) ((1:Int):Rat)=0 then [(((1:Int):Rat),((1:Int):Rat))]else []):=fun h0=>by rw[hL];exact if_neg h0
 by_cases hE:L=[]
 ·refine jc (r:=aL (uV d p) []) hT (M5 false d) hm KV rfl aX rfl [1,1,1,1,1,1,1,1,1,0,1] (i:=0) (y:=part pC [1,1,1,1,1,1,1,1,1,0,1,0,0]) (z:=part pC [1,1,1,1,1,1,1,1,1,1]) ah ah ah (f1:=[14,26,35]) (f2:=[44]) (f3:=[]) 60 pe 2
   (fun i:Nat=>sM (aF p) (dY d p).length i) (fun i=>tW (dY d p) (uf d p) i) (fun i=>(aF p).1≠0/\i<=(dY d p).length) (fun i=>(aF p).1≠0/\i=(dY d p).length) (fun i=>(dY d p).length-i) (fun _=>⟨⟨_,ZK hL,?_⟩,fun i ⟨i1,i2⟩=>⟨_,RV,?_⟩,fun i ⟨i1,i2⟩=>⟨_,aay,?_⟩⟩) K []
  ·unfold BS p5
   simp only[ag.all,az,beq_iff_eq,beq_eq_false_iff_ne,ne_eq,oV]
   refine⟨⟨dQ,hof⟩,fun h0=>?_,fun h0=>?_⟩
   ·have h0:(aF p).1=0:=aa
    refine⟨[nil,int i64 3],ah,?_⟩
    have e:dY d p=[]:=if_pos h0
    have er:uV d p=.tuple [.ak 7 0 (nM [] (uf d p)),.int .i64 3]:=by
     show AV.tuple _=_
     rw[e,if_pos h0];rfl
    rw[er]
    exact⟨lZ (by decide),.refl _,trivial⟩
   ·have h0:(aF p).1≠0:=aa
    obtain⟨k1,k2,k3,k4,k5,k6,k7,k8⟩:=hall h0
    have e:=eL h0
    rw[hE]at e
    refine⟨⟨dQ,k1⟩,⟨aa,aa,aa⟩,⟨aa,hrd,aa,hN2,Nat.succ_pos _,k2,k3,hE⟩,⟨dQ,aa,aa,k4,aa⟩,fun z0=>?_,fun z0=>?_⟩
    ·refine⟨⟨aa,aa⟩,⟨aa,dQ,hN,aa,k5,aa⟩,fun z1=>?_,fun z1=>?_⟩
     ·rw[if_pos z0,if_pos z1]at e
      refine⟨⟨aa,hN2,hz1,aa,aa⟩,0,⟨h0,Nat.zero_le _⟩,su rfl (by rw[e];rfl) fun i hi=>?_⟩
      rw[e]at hi ⊢
      have hi:i<2:=hi
      rcases(show i=0\/i=1 by omega)with rfl|rfl
      ·exact BF
      ·exact wD rfl
     ·rw[if_pos z0,if_neg z1]at e
      refine⟨0,⟨h0,Nat.zero_le _⟩,su rfl (by rw[e];rfl) fun i hi=>?_⟩
      rw[e]at hi ⊢
      have hi:i<1:=hi
      obtain rfl:i=0:=aa
      exact BF
    ·refine⟨⟨aa,dQ,hN,aa,k5,aa⟩,fun z1=>?_,fun z1=>?_⟩
     ·rw[if_neg z0,if_pos z1]at e
      refine⟨⟨aa,hN2,hz1,aa,aa,aa⟩,0,⟨h0,Nat.zero_le _⟩,su rfl (by rw[e];rfl) fun i hi=>?_⟩
      rw[e]at hi ⊢
      have hi:i<1:=hi
      obtain rfl:i=0:=aa
      exact wD rfl
     ·rw[if_neg z0,if_neg z1]at e
      refine⟨0,⟨h0,Nat.zero_le _⟩,?_⟩
      rw[e]
      exact⟨[],rfl,rfl,rfl,kZ rfl aa aa (kZ rfl aa aa trivial)⟩
  ·obtain⟨k1,k2,k3,k4,k5,k6,k7,k8⟩:=hall i1
   simp only[ag.all,az,bB,bD,bJ,Nat.add_zero]
   refine⟨fun hl=>⟨⟨⟨aa,aa⟩,aa,⟨aa,aa⟩,aa,dQ,.refl _,.refl _,k8 i aa,aa,aa⟩,aa,i+1,⟨i1,aa⟩,by dsimp only;omega,[(0,0),(1,69634)],rfl,by rw[show(i:Int)+1=((i+1:Nat):Int) by omega];rfl,rfl,br rfl rfl rfl (fun k hk=>?_) (br rfl rfl rfl (fun k hk=>bN rfl rfl) trivial)⟩,fun hl=>⟨rfl,i,⟨i1,aa⟩,[(0,0),(1,1)],rfl,rfl,rfl,br rfl rfl rfl (fun k hk=>bN rfl rfl) (br rfl rfl rfl (fun k hk=>bN rfl rfl) trivial)⟩⟩
   by_cases hki:k<i
   ·rw[if_pos hki];exact bN rfl rfl
   ·obtain rfl:k=i:=aa
    rw[if_neg hki,Nat.sub_self];exact bN rfl rfl
  ·subst i2
   simp only[ag.all,az]
   exact⟨.refl _,by show aW _ (.int .i64 (if _ then _ else _));rw[if_neg i1];exact .refl _,trivial⟩
 ·refine jc (r:=aL (uV d p) []) hT (M5 true d) hm KV rfl aX rfl [1,1,1,1,1,1,1,1,1,0,1] (i:=0) (y:=part pC [1,1,1,1,1,1,1,1,1,0,1,0,0]) (z:=part pC [1,1,1,1,1,1,1,1,1,1]) ah ah ah (f1:=[14,26,35]) (f2:=[44]) (f3:=[]) 60 pe 2
   (fun i:Nat=>sM (aF p) (dY d p).length i) (fun i=>tW (dY d p) (uf d p) i) (fun i=>(aF p).1≠0/\i<=(dY d p).length) (fun i=>(aF p).1≠0/\i=(dY d p).length) (fun i=>(dY d p).length-i) (fun _=>⟨⟨_,abo hL,?_⟩,fun i ⟨i1,i2⟩=>⟨_,aeQ,?_⟩,fun i ⟨i1,i2⟩=>⟨_,aap,?_⟩⟩) K []
  ·unfold BS p5
   simp only[ag.all,az,beq_iff_eq,beq_eq_false_iff_ne,ne_eq,oV]
   refine⟨⟨dQ,hof⟩,fun h0=>?_,fun h0=>?_⟩
   ·have h0:(aF p).1=0:=aa
    refine⟨[nil,int i64 3],ah,?_⟩
    have e:dY d p=[]:=if_pos h0
    have er:uV d p=.tuple [.ak 7 0 (nM [] (uf d p)),.int .i64 3]:=by
     show AV.tuple _=_
     rw[e,if_pos h0];rfl
    rw[er]
    exact⟨lZ (by decide),.refl _,trivial⟩
   ·have h0:(aF p).1≠0:=aa
    obtain⟨k1,k2,k3,k4,k5,k6,k7,k8⟩:=hall h0
    have e:=eL h0
    have e7:=k7
    rw[e,List.length_append,List.length_append]at e7
    have lL:L.length<2^30:=aa
    refine⟨⟨dQ,k1⟩,⟨aa,aa,aa⟩,⟨aa,hrd,aa,hN2,Nat.succ_pos _,k2,k3,hE⟩,⟨dQ,aa,aa,k4,aa⟩,fun z0=>?_,fun z0=>?_⟩
    ·refine⟨⟨aa,aa⟩,⟨aa,dQ,hN,aa,k5,aa⟩,fun z1=>?_,fun z1=>?_⟩
     ·rw[if_pos z0,if_pos z1]at e
      refine⟨⟨aa,hN2,hz1,aa,aa⟩,0,⟨h0,Nat.zero_le _⟩,su rfl (by rw[e];simp;omega) fun i hi=>?_⟩
      rw[e]at hi ⊢
      have hi:i<1+L.length+1:=by simp at hi;omega
      have hlen:([((0:Rat),(0:Rat))]++L).length=1+L.length:=by simp;omega
      unfold cy
      rw[tO,hlen]
      by_cases hi1:i<1+L.length
      ·rw[if_pos hi1,if_pos hi1,Rn]
       by_cases hi2:i<1
       ·rw[if_pos hi2,if_pos hi2]
        obtain rfl:i=0:=aa
        exact BF
       ·rw[if_neg hi2,if_neg hi2];exact wD rfl
      ·rw[if_neg hi1,if_neg hi1,show i-(1+L.length)=0 by omega]
       exact bN rfl rfl
     ·rw[if_pos z0,if_neg z1,List.append_nil]at e
      refine⟨0,⟨h0,Nat.zero_le _⟩,su rfl (by rw[e];simp;omega) fun i hi=>?_⟩
      rw[e]at hi ⊢
      unfold cy
      rw[Rn]
      by_cases hi2:i<1
      ·rw[if_pos hi2,if_pos hi2]
       obtain rfl:i=0:=aa
       exact BF
      ·rw[if_neg hi2,if_neg hi2];exact wD rfl
    ·refine⟨⟨aa,dQ,hN,aa,k5,aa⟩,fun z1=>?_,fun z1=>?_⟩
     ·rw[if_neg z0,if_pos z1,List.nil_append]at e
      refine⟨⟨aa,hN2,hz1,aa,aa⟩,0,⟨h0,Nat.zero_le _⟩,su rfl (by rw[e];simp) fun i hi=>?_⟩
      rw[e]at hi ⊢
      have hi:i<L.length+1:=by simpa using hi
      unfold cy
      rw[tO]
      by_cases hi1:i<L.length
      ·rw[if_pos hi1,if_pos hi1];exact wD rfl
      ·rw[if_neg hi1,if_neg hi1,show i-L.length=0 by omega];exact bN rfl rfl
     ·rw[if_neg z0,if_neg z1,List.nil_append,List.append_nil]at e
      refine⟨0,⟨h0,Nat.zero_le _⟩,su rfl (by rw[e]) fun i hi=>?_⟩
      rw[e];exact wD rfl
  ·obtain⟨k1,k2,k3,k4,k5,k6,k7,k8⟩:=hall i1
   simp only[ag.all,az,bB,bD,bJ,Nat.add_zero]
   refine⟨fun hl=>⟨⟨⟨aa,aa⟩,aa,⟨aa,aa⟩,aa,dQ,.refl _,.refl _,k8 i aa,aa,aa⟩,aa,i+1,⟨i1,aa⟩,by dsimp only;omega,[(0,0),(1,69634)],rfl,by rw[show(i:Int)+1=((i+1:Nat):Int) by omega];rfl,rfl,br rfl rfl rfl (fun k hk=>?_) (br rfl rfl rfl (fun k hk=>bN rfl rfl) trivial)⟩,fun hl=>⟨rfl,i,⟨i1,aa⟩,[(0,0),(1,1)],rfl,rfl,rfl,br rfl rfl rfl (fun k hk=>bN rfl rfl) (br rfl rfl rfl (fun k hk=>bN rfl rfl) trivial)⟩⟩
   by_cases hki:k<i
   ·rw[if_pos hki];exact bN rfl rfl
   ·obtain rfl:k=i:=aa
    rw[if_neg hki,Nat.sub_self];exact bN rfl rfl
  ·subst i2
   simp only[ag.all,az]
   exact⟨.refl _,by show aW _ (.int .i64 (if _ then _ else _));rw[if_neg i1];exact .refl _,trivial⟩
def LW (d:Nat):Spec:=dD (kC (kL af) kN) (fun a=>uV d a.1) fun a=>[Cs d a.1]
theorem aiw (d:Nat):aY P (LW d) 19:=cO fun⟨_,_⟩ K hn=>acn hn K
end Go.Am.B
