/- What divides a product of short factors is short. -/
import Derived.Test.YtolopdkjjlfgjaaGreatY40
import Derived.Test.YtolopdkjjlfgjaaGreatZ2
set_option linter.unusedVariables false
namespace Go.Am
theorem aat {y:Rat} {b c:Int} (h:y*y+(b:Rat)*y+(c:Rat)=0):y.den=1:=by
 have hd:((y.den:Int):Rat)≠0:=pO (D:=(y.den:Int)) (by have:=y.den_pos;omega)
 have e1:y*((y.den:Int):Rat)=(y.num:Rat):=by
  have:=Rat.num_divInt_den y
  rw[Rat.divInt_eq_div]at this
  have h2:=Rat.div_mul_cancel (a:=(y.num:Rat)) hd
  rwa [this]at h2
 have e2:(y.num:Rat)*(y.num:Rat)+(b:Rat)*(y.num:Rat)*((y.den:Int):Rat)+(c:Rat)*((y.den:Int):Rat)*((y.den:Int):Rat)=0:=by
  rw[<-e1]
  generalize ((y.den:Int):Rat)=d at*
  have:y*d*(y*d)+(b:Rat)*(y*d)*d+(c:Rat)*d*d=d*d*(y*y+(b:Rat)*y+(c:Rat)):=by grind
  rw[this,h,Rat.mul_zero]
 have e3:y.num*y.num+b*y.num*(y.den:Int)+c*(y.den:Int)*(y.den:Int)=0:=by
  have:((y.num*y.num+b*y.num*(y.den:Int)+c*(y.den:Int)*(y.den:Int):Int):Rat)=((0:Int):Rat):=by
   rw[Rat.intCast_add,Rat.intCast_add,Rat.intCast_mul,Rat.intCast_mul,Rat.intCast_mul,Rat.intCast_mul,Rat.intCast_mul];exact e2
  exact_mod_cast this
 have e4:(y.den:Int)∣y.num*y.num:=⟨-(b*y.num+c*y.den),by grind⟩
 have e5:y.den∣y.num.natAbs*y.num.natAbs:=by
  have:=Int.natAbs_dvd_natAbs.2 e4
  rwa [Int.natAbs_mul,Int.natAbs_natCast]at this
 have e6:Nat.Coprime y.den y.num.natAbs:=Nat.Coprime.symm y.reduced
 have e7:=Nat.Coprime.dvd_of_dvd_mul_left e6 e5
 exact e6.eq_one_of_dvd e7
theorem UA:(1:Rat)⁻¹=1:=by decide+kernel
theorem F3 {q d:PP} (hb:Bd q 13) (tq:Trim q) (q0:0<q.1) (lq:q.1<=3) (td:Trim d) (d0:0<d.1) (d1:d.2 (d.1-1)=1) (hd:Dv d q):Bd d 27/\d.1<=3:=by
 have hl:=hd.len q0 tq td
 refine⟨?_,aa⟩
 have one:∀s,cj 1 s 1:=fun s=>⟨1,(Rat.one_mul _).symm,Nat.one_le_two_pow⟩
 rcases(show d.1=1\/d.1=q.1\/(d.1=2/\q.1=3) by omega)with h|h|⟨h,h'⟩
 ·refine⟨1,by decide,Nat.one_le_two_pow,fun i hi=>?_⟩
  obtain rfl:i=0:=aa
  rw[h]at d1
  rw[show d.2 0=1 from d1];exact one _
 ·obtain⟨w,hw⟩:=hd
  have hw1:(ct w).1=1:=by
   have:=(qx (b:=ct w) (fun t=>by rw[hw,eu]) q0 tq td fO).2.2
   have:=(qx (b:=ct w) (fun t=>by rw[hw,eu]) q0 tq td fO).2.1
   omega
  have e:∀t,aC q t=w.2 0*aC d t:=fun t=>by
   rw[hw,<-eu (a:=w)]
   show _*ev (ct w).1 w.2 t=_
   rw[hw1]
   show _*(0+w.2 0*t^0)=_
   rw[Rat.pow_zero];grind
  have hl0:w.2 0≠0:=fun h0=>by
   have:=pK tq fun t=>by rw[e,h0,Rat.zero_mul]
   omega
  have hp:gj q (gi (w.2 0) d):=B2 tq (xw td hl0) fun t=>by rw[e,fV]
  have hs:lU q d:=⟨w.2 0,hl0,h.symm,fun i hi=>hp.2 i hi⟩
  have h2:gj (dy d) d:=⟨rfl,fun i _=>by show d.2 i/d.2 (d.1-1)=d.2 i;rw[d1,Rat.div_def,UA,Rat.mul_one]⟩
  exact((hb.cM tq).Cb (hs.cM.trans h2)).more aa
 ·obtain⟨D,hD,hD2,hz⟩:=hb
  obtain⟨z0,a0,b0⟩:=hz 0 aa
  obtain⟨z1,a1,b1⟩:=hz 1 aa
  obtain⟨z2,a2,b2⟩:=hz 2 aa
  have hq2:q.2 2≠0:=by rcases tq with h3|h3;omega;rw[h']at h3;exact h3
  have hDr:=pO hD
  have hz2:z2≠0:=fun h0=>by
   rw[h0]at a2
   rcases Rat.mul_eq_zero.1 (show q.2 2*(D:Rat)=0 from a2.symm)with h3|h3
   ·exact hq2 h3
   ·exact hDr h3
  obtain⟨w,hw⟩:=hd
  have ed:∀t,aC d t=d.2 0+t:=fun t=>by
   show ev d.1 d.2 t=_
   rw[h]at d1 ⊢
   show 0+d.2 0*t^0+d.2 1*t^1=_
   rw[show d.2 1=1 from d1,Rat.pow_succ,Rat.pow_zero];grind
  have eq0:aC q (-d.2 0)=0:=by rw[hw,ed];grind
  have eq1:q.2 0+q.2 1*(-d.2 0)+q.2 2*(d.2 0*d.2 0)=0:=by
   have:ev q.1 q.2 (-d.2 0)=0:=eq0
   rw[h']at this
   have this:0+q.2 0*(-d.2 0)^0+q.2 1*(-d.2 0)^1+q.2 2*(-d.2 0)^2=0:=this
   rw[Rat.pow_succ,Rat.pow_succ,Rat.pow_succ,Rat.pow_zero]at this
   grind
  -- y = - z2 d0
  have ey:(z2:Rat)*d.2 0*((z2:Rat)*d.2 0)+((-z1:Int):Rat)*((z2:Rat)*d.2 0)+((z0*z2:Int):Rat)=0:=by
   rw[Rat.intCast_neg,Rat.intCast_mul]
   have:(z2:Rat)*d.2 0*((z2:Rat)*d.2 0)+-(z1:Rat)*((z2:Rat)*d.2 0)+(z0:Rat)*(z2:Rat)=(z2:Rat)*((z0:Rat)+(z1:Rat)*(-d.2 0)+(z2:Rat)*(d.2 0*d.2 0)):=by grind
   rw[this,a0,a1,a2]
   have:q.2 0*(D:Rat)+q.2 1*(D:Rat)*(-d.2 0)+q.2 2*(D:Rat)*(d.2 0*d.2 0)=(D:Rat)*(q.2 0+q.2 1*(-d.2 0)+q.2 2*(d.2 0*d.2 0)):=by grind
   rw[this,eq1];grind
  have hden:=aat ey
  obtain⟨y,hy⟩:∃y:Int,(y:Rat)=(z2:Rat)*d.2 0:=⟨((z2:Rat)*d.2 0).num,Rat.ext rfl (id (Eq.symm hden))⟩
  rw[<-hy]at ey
  have ez:y*(y-z1)=-(z0*z2):=by
   have:((y*y+(-z1)*y+z0*z2:Int):Rat)=((0:Int):Rat):=by
    rw[Rat.intCast_add,Rat.intCast_add,Rat.intCast_mul,Rat.intCast_mul];exact ey
   have:y*y+(-z1)*y+z0*z2=0:=by exact_mod_cast this
   grind
  have hyb:y.natAbs<=2^27:=by
   have n1:y.natAbs*(y-z1).natAbs=z0.natAbs*z2.natAbs:=by rw[<-Int.natAbs_mul,ez,Int.natAbs_neg,Int.natAbs_mul]
   have n2:z0.natAbs*z2.natAbs<=2^13*2^13:=Nat.mul_le_mul b0 b2
   refine Decidable.byContradiction fun hn=>?_
   have n3:2^26+1<=(y-z1).natAbs:=aa
   have n4:1*(2^26+1)<=y.natAbs*(y-z1).natAbs:=Nat.mul_le_mul aa n3
   omega
  refine⟨z2,hz2,Nat.le_trans b2 (by decide),fun i hi=>?_⟩
  rcases(show i=0\/i=1 by omega)with rfl|rfl
  ·exact⟨y,by rw[hy,Rat.mul_comm],hyb⟩
  ·rw[h]at d1
   rw[show d.2 1=1 from d1]
   exact⟨z2,(Rat.one_mul _).symm,Nat.le_trans b2 (by decide)⟩
def jX (i:Nat) (c:PP):Prop:=∀g:PP,Trim g->0<g.1->Dv g c->∃(l:Rat) (w h f:PP),l≠0/\(∀t,aC g t=l*aC w t)/\Bd w (120*i)/\Trim w/\jC w h f/\(ct f).1<=2*i+1
theorem jX.of_eq {i:Nat} {c c':PP} (h:jX i c) (e:∀t,aC c t=aC c' t):jX i c':=fun g tg g0 hd=>h g tg g0 (hd.of_eq fun t=>(e t).symm)
theorem aeo {s:Nat}:Bd gW s:=⟨1,by decide,Nat.one_le_two_pow,fun i _=>⟨1,(Rat.one_mul _).symm,Nat.one_le_two_pow⟩⟩
theorem E4:Trim gW:=.inr (by decide)
theorem jX.one:jX 0 gW:=fun g tg g0 hd=>by
 have hl:=hd.len (show 0<1 by decide) E4 tg
 have hl:g.1<=1:=hl
 have h1:g.1=1:=aa
 have e:∀t,aC g t=g.2 0:=fun t=>by
  show ev g.1 g.2 t=_
  rw[h1]
  show 0+g.2 0*t^0=_
  rw[Rat.pow_zero];grind
 refine⟨g.2 0,gW,gW,gW,fun h0=>?_,fun t=>by rw[e,jm,Rat.mul_one],aeo,E4,jC.one,k9⟩
 have:=pK tg fun t=>by rw[e,h0]
 omega
theorem MS {g w:PP} {l:Rat} (tg:Trim g) (tw:Trim w) (hl:l≠0) (e:∀t,aC g t=l*aC w t):g.1=w.1:=
 (B2 (b:=gi l w) tg (xw tw hl) fun t=>by rw[e,fV]).1
theorem Fv {g q c c':PP} (tg:Trim g) (g0:0<g.1) (tq:Trim q) (e:∀t,aC c' t=aC c t*aC q t) (hd:Dv g c'):
  ∃d g1:PP,Trim d/\0<d.1/\d.2 (d.1-1)=1/\Dv d q/\Trim g1/\0<g1.1/\(∀t,aC g t=aC d t*aC g1 t)/\Dv g1 c/\∀h,Dv h g->Dv h q->Dv h d:=by
 obtain⟨a1,b1,h1,h2,h3⟩:=DT tg tq g0
 obtain⟨w,hw⟩:=hd
 have td:=j8 tg tq
 have d0:=mM (b:=q) g0
 have hc:∀t,aC (bZ b1 c) t=aC (bZ a1 w) t:=C0 d0 td fun t=>by
  have k1:=h1 t
  have k2:=h2 t
  have k3:=hw t
  have k4:=e t
  rw[cr,cr]
  generalize aC (bR g q) t=x at*
  rw[k4,k1,k2]at k3
  grind
 have hd1:Dv a1 c:=h3.dv (w:=w) fun t=>by rw[<-cr,hc,cr]
 refine⟨bR g q,ct a1,td,d0,yH (a:=(bQ (g,q) q.1).1) (zB (s:=(g,q)) g0 _) (lW (s:=(g,q)) tg tq _).1,⟨b1,h2⟩,fO,?_,fun t=>by rw[eu];exact h1 t,hd1.imp fun w hw t=>by rw[hw,eu],fun h k1 k2=>EN k1 k2⟩
 rcases Nat.eq_zero_or_pos (ct a1).1 with h|h
 ·have:=pK tg fun t=>by rw[h1,<-eu (a:=a1),jx h,Rat.mul_zero]
  omega
 ·exact h
theorem jX.aeT {i:Nat} {c c' q:PP} (h:jX i c) (hc:0<(ct c').1/\(ct c').1<=30) (hb:Bd q 13) (tq:Trim q) (q0:0<q.1) (lq:q.1<=3) (e:∀t,aC c' t=aC c t*aC q t):jX (i+1) c':=fun g tg g0 hd=>by
 have lg:g.1<=30:=Nat.le_trans ((hd.of_eq fun t=>(eu t).symm).len hc.1 fO tg) hc.2
 obtain⟨d,g1,td,d0,d1,dq,t1,p1,e1,k1,_⟩:=Fv tg g0 tq e hd
 obtain⟨bd,ld⟩:=F3 hb tq q0 lq td d0 d1 dq
 obtain⟨l,w,hh,f,hl,ew,bw,tw,sq,lf⟩:=h g1 t1 p1 k1
 have lg1:=Dv.len (h:=g1) (g:=g) ⟨d,fun t=>by rw[e1,Rat.mul_comm]⟩ g0 tg t1
 have lw:=MS t1 tw hl ew
 refine⟨l,ct (bZ w d),hh,bZ f d,hl,fun t=>by rw[e1,ew,eu,cr];grind,dn.short ((vC bw bd aa aa).more aa) k9,fO,(sq.Dw (c':=bZ w d) fun t=>cr).of_eq fun t=>(eu t).symm,?_⟩
 have c1:=Ax (a:=f) (b:=d)
 have c2:=k9 (a:=d)
 omega
theorem jX.Vv {i:Nat} {c c' q:PP} (h:jX i c) (hc:0<(ct c').1/\(ct c').1<=30) (hb:Bd q 13) (tq:Trim q) (q0:0<q.1) (lq:q.1<=3) (e:∀t,aC c' t=aC c t*aC q t*aC q t):jX (i+1) c':=fun g tg g0 hd=>by
 have lg:g.1<=30:=Nat.le_trans ((hd.of_eq fun t=>(eu t).symm).len hc.1 fO tg) hc.2
 obtain⟨d1,g1,td1,d10,d11,dq1,t1,p1,e1,k1,u1⟩:=Fv (c:=bZ c q) tg g0 tq (fun t=>by rw[cr,e]) hd
 obtain⟨d2,g2,td2,d20,d21,dq2,t2,p2,e2,k2,_⟩:=Fv (c:=c) t1 p1 tq (fun t=>cr) k1
 have dg:Dv d2 d1:=u1 d2 ⟨bZ d1 g2,fun t=>by rw[e1,e2,cr];grind⟩ dq2
 obtain⟨x,hx⟩:=dg
 have x0:0<(ct x).1/\d1.1=d2.1-1+((ct x).1-1)+1:=by
  have:=qx (a:=d2) (b:=ct x) (fun t=>by rw[eu];exact hx t) d10 td1 td2 fO
  exact⟨this.2.1,this.2.2⟩
 have ll:=dq1.len q0 tq td1
 have xm:Dv (dy (ct x)) q:=by
  obtain⟨v,hv⟩:=dq1
  refine⟨gi ((ct x).2 ((ct x).1-1)) (bZ d2 v),fun t=>?_⟩
  rw[hv,hx,<-eu (a:=x),Dr fO,fV,cr];grind
 obtain⟨bx,lx⟩:=F3 hb tq q0 lq (ov fO) x0.1 (yH x0.1 fO) xm
 obtain⟨b2,l2⟩:=F3 hb tq q0 lq td2 d20 d21 dq2
 obtain⟨l,w,hh,f,hl,ew,bw,tw,sq,lf⟩:=h g2 t2 p2 k2
 have lg2:=Dv.len (h:=g2) (g:=g) ⟨bZ d1 d2,fun t=>by rw[e1,e2,cr];grind⟩ g0 tg t2
 have lw:=MS t2 tw hl ew
 have hxl:(ct x).2 ((ct x).1-1)≠0:=by rcases fO (a:=x)with h|h;omega;exact h
 have lx':(dy (ct x)).1=(ct x).1:=rfl
 have y1:=vC bw bx aa aa
 have y2:=vC y1 b2 (by show w.1+(ct x).1+1<=_;omega) aa
 have y3:=vC y2 b2 (by show w.1+(ct x).1+1+d2.1+1<=_;omega) aa
 refine⟨l*(ct x).2 ((ct x).1-1),ct (bZ (bZ (bZ w (dy (ct x))) d2) d2),bZ hh d2,bZ (bZ f (dy (ct x))) d2,fun h0=>(Rat.mul_eq_zero.1 h0).elim hl hxl,fun t=>?_,dn.short (y3.more aa) k9,fO,((sq.Dw (c':=bZ w (dy (ct x))) fun t=>cr).P9 (c':=bZ (bZ (bZ w (dy (ct x))) d2) d2) fun t=>by rw[cr,cr]).of_eq fun t=>(eu t).symm,?_⟩
 ·rw[e1,e2,ew,hx,<-eu (a:=x),Dr fO,eu,cr,cr,cr];grind
 ·have c1:=Ax (a:=bZ f (dy (ct x))) (b:=d2)
  have c2:=Ax (a:=f) (b:=dy (ct x))
  have c3:=k9 (a:=d2)
  have c4:=k9 (a:=dy (ct x))
  omega
def tU (i:Nat) (p:PP):Prop:=(∃t,iY p t≠0)->jX i (gE p)
theorem tU.one:tU 0 (1,fun _=>1):=fun _=>jX.one.of_eq fun t=>by rw[lN (show 1<=1 by decide),jm];rfl
theorem tU.step {i r:Nat} {p q:PP} (h:tU i p) (hp:1<=p.1) (hq:qY q) (hr:1<=r/\r<=2) (hl30:(gY p q r).1<=30):tU (i+1) (gY p q r):=fun⟨t0,h0⟩=>by
 have hl:=Ah hp hq r
 have bq:Bd (ct (gE q)) 13:=dn.short hq.pw k9
 have lq:(ct (gE q)).1<=3:=Nat.le_trans k9 hq.hi
 have key:iY p t0≠0->iY q t0≠0->jX i (gE p)/\0<(ct (gE q)).1:=fun h1 h2=>⟨h ⟨t0,h1⟩,by
  rcases Nat.eq_zero_or_pos (ct (gE q)).1 with h3|h3
  ·exact absurd (by rw[<-lN hq.lo,<-eu,jx h3]) h2
  ·exact h3⟩
 have hc:0<(ct (gE (gY p q r))).1/\(ct (gE (gY p q r))).1<=30:=⟨by
  rcases Nat.eq_zero_or_pos (ct (gE (gY p q r))).1 with h3|h3
  ·exact absurd (by rw[<-lN hl.1,<-eu,jx h3]) h0
  ·exact h3,Nat.le_trans k9 hl30⟩
 rcases(show r=1\/r=2 by omega)with rfl|rfl
 ·have e:∀t,iY (gY p q 1) t=iY p t*iY q t:=fun t=>vj t
  rw[e]at h0
  obtain⟨k1,k2⟩:=key (fun h=>h0 (by rw[h,Rat.zero_mul])) (fun h=>h0 (by rw[h,Rat.mul_zero]))
  exact k1.aeT hc bq fO k2 lq fun t=>by rw[lN hl.1,e,eu,lN hp,lN hq.lo]
 ·have e:∀t,iY (gY p q 2) t=iY p t*iY q t*iY q t:=fun t=>by
   show iY (qB (qB p q) q) t=_
   rw[vj,vj]
  rw[e]at h0
  obtain⟨k1,k2⟩:=key (fun h=>h0 (by rw[h,Rat.zero_mul,Rat.zero_mul])) (fun h=>h0 (by rw[h,Rat.mul_zero]))
  exact k1.Vv hc bq fO k2 lq fun t=>by rw[lN hl.1,e,eu,lN hp,lN hq.lo]
structure dD (c:PP):Prop where
 tr:Trim c
 p0:0<c.1
 len:c.1<=13
 bd:Bd c 800
 dv:∀g:PP,Trim g->0<g.1->Dv g c->Bd (dy g) 800/\∃h f:PP,jC g h f/\(ct f).1<=7
theorem afJ {g:PP} (h:g.2 (g.1-1)=1):gj (dy g) g:=⟨rfl,fun i _=>by
 show g.2 i/g.2 (g.1-1)=g.2 i
 have:(1:Rat)⁻¹=1:=by decide+kernel
 rw[h,Rat.div_def,this,Rat.mul_one]⟩
theorem dD.CH {c g:PP} (h:dD c) (tg:Trim g) (g0:0<g.1) (hd:Dv g c) (hm:g.2 (g.1-1)=1):dD g where
 tr:=tg
 p0:=g0
 len:=Nat.le_trans (hd.len h.p0 h.tr tg) h.len
 bd:=(h.dv g tg g0 hd).1.Cb (afJ hm)
 dv:=fun k tk k0 kd=>h.dv k tk k0 (kd.trans hd)
theorem jX.gd {i:Nat} {c:PP} (h:jX i c) (hi:i<=6) (hf:i<=3\/c.1<=7) (tc:Trim c) (c0:0<c.1) (lc:c.1<=13) (bc:Bd c 800):dD c where
 tr:=tc
 p0:=c0
 len:=lc
 bd:=bc
 dv:=fun g tg g0 hd=>by
  obtain⟨l,w,hh,f,hl,ew,bw,tw,sq,lf⟩:=h g tg g0 hd
  have hp:gj g (gi l w):=B2 tg (xw tw hl) fun t=>by rw[ew,fV]
  have hs:lU g w:=⟨l,hl,hp.1,fun i hi=>hp.2 i hi⟩
  have bw2:Bd w 800:=bw.more aa
  refine⟨(bw2.cM tw).Cb hs.cM.symm,?_⟩
  rcases hf with hf|hf
  ·refine⟨hh,gi l f,⟨fun t=>by rw[ew,sq.eq,fV];grind,sq.dv.sC l fun t=>?_⟩,?_⟩
   ·have:=kM (a:=(1,fun _=>l)) (b:=w) (c:=g) (fun t=>by rw[ew];congr 1;show l=0+l*t^0;rw[Rat.pow_zero];grind) t
    rw[gM,gM,this]
    have z:dz (1,fun _=>l) t=0:=by
     show 0+l*(((0:Nat):Int)*t^(0-1):Rat)=0
     rw[show(((0:Nat):Int):Rat)=0 from rfl];grind
    have z2:aC (1,fun _=>l) t=l:=by show 0+l*t^0=l;rw[Rat.pow_zero];grind
    rw[z,z2];grind
   ·show bH (fun i=>l*f.2 i) f.1<=7
    rw[F0 hl]
    have:bH f.2 f.1<=2*i+1:=lf
    omega
  ·have:=hd.len c0 tc tg
   exact⟨gW,g,⟨fun t=>by rw[jm,Rat.one_mul],⟨aW g,fun t=>by rw[jm,Rat.one_mul]⟩⟩,Nat.le_trans k9 aa⟩
theorem dD.gcd {c:PP} (h:dD c):dD (bR c (aW c)):=
 h.CH (j8 h.tr dI) (mM h.p0) (rR h.tr dI).1 (yH (a:=(bQ (c,aW c) (aW c).1).1) (zB (s:=(c,aW c)) h.p0 _) (lW (s:=(c,aW c)) h.tr dI _).1)
theorem Q8 {c:PP} (tc:Trim c) (c0:0<c.1):(bh c).2 ((bh c).1-1)=1:=by
 have h:=z8 tc c0
 unfold bh at h ⊢
 rw[if_neg aa]at h ⊢
 exact yH h yM
theorem dD.free {c:PP} (h:dD c):dD (bh c)/\(bh c).1<=7:=by
 obtain⟨G,e,_,_,h1,_⟩:=rH h.tr h.p0
 obtain⟨_,hh,f,sq,lf⟩:=h.dv c h.tr h.p0 (.refl c)
 exact⟨h.CH kn (z8 h.tr h.p0) ⟨G,fun t=>by rw[h1,Rat.mul_comm]⟩ (Q8 h.tr h.p0),Nat.le_trans (W9 sq h.p0 h.tr) lf⟩
def Ab (x M:Rat):Prop:=-M<=x/\x<=M
theorem Ab.add {x y M N:Rat} (h:Ab x M) (h':Ab y N):Ab (x+y) (M+N):=by
 unfold Ab at*;constructor<;>grind
theorem Ab.sub {x y M N:Rat} (h:Ab x M) (h':Ab y N):Ab (x-y) (M+N):=by
 unfold Ab at*;constructor<;>grind
theorem Ab.mul {x y M N:Rat} (h:Ab x M) (h':Ab y N):Ab (x*y) (M*N):=by
 unfold Ab at*
 have h1:=Rat.mul_nonneg (a:=M-x) (b:=N+y) (by grind) (by grind)
 have h2:=Rat.mul_nonneg (a:=M+x) (b:=N-y) (by grind) (by grind)
 have h3:=Rat.mul_nonneg (a:=M-x) (b:=N-y) (by grind) (by grind)
 have h4:=Rat.mul_nonneg (a:=M+x) (b:=N+y) (by grind) (by grind)
 constructor<;>grind
theorem Ab.more {x M N:Rat} (h:Ab x M) (hM:M<=N):Ab x N:=by
 unfold Ab at*;constructor<;>grind
theorem Ab.pos {x M:Rat} (h:Ab x M):0<=M:=by unfold Ab at*;grind
theorem Ab.zero {M:Rat} (h:0<=M):Ab 0 M:=by unfold Ab;constructor<;>grind
def T2 (n:Nat):Rat:=2^n
theorem oO (n:Nat):T2 (n+1)=2*T2 n:=by unfold T2;rw[Rat.pow_succ,Rat.mul_comm]
theorem j9:∀n,0<T2 n
 |0=>by unfold T2;rw[Rat.pow_zero];decide
 |n+1=>by rw[oO];have:=j9 n;grind
theorem qZ (m n:Nat):T2 (m+n)=T2 m*T2 n:=pow_add' 2 m n
theorem Cg:∀n,1<=T2 n
 |0=>by unfold T2;rw[Rat.pow_zero];decide
 |n+1=>by rw[oO];have:=Cg n;grind
theorem jR {m n:Nat} (h:m<=n):T2 m<=T2 n:=by
 obtain⟨k,rfl⟩:∃k,n=m+k:=⟨n-m,aa⟩
 rw[qZ]
 have h1:=j9 m
 have h2:=Cg k
 have:=Rat.mul_le_mul_of_nonneg_left (c:=T2 m) h2 (by grind)
 grind
theorem vE:∀n:Nat,T2 n=((2^n:Nat):Int)
 |0=>by unfold T2;rw[Rat.pow_zero];rfl
 |n+1=>by
  rw[oO,vE n,Nat.pow_succ,Int.natCast_mul,Rat.intCast_mul]
  show(2:Rat)*_=_*2
  rw[Rat.mul_comm]
theorem pn {a b:Int} (h:a<=b):(a:Rat)<=(b:Rat):=by exact_mod_cast h
theorem cj.ab {D:Int} {s:Nat} {x:Rat} (h:cj D s x) (hD:D≠0):Ab x (T2 s):=by
 obtain⟨z,h1,h2⟩:=h
 have z1:(z:Rat)<=T2 s:=by rw[vE];exact pn aa
 have z2:-(T2 s)<=(z:Rat):=by rw[vE,<-Rat.intCast_neg];exact pn aa
 have hT:=j9 s
 rcases(show D<=-1\/1<=D by omega)with hd|hd
 ·have d1:(D:Rat)<=-1:=pn (b:=-1) hd
  constructor
  ·refine Decidable.byContradiction fun hn=>?_
   have h3:=Rat.mul_pos (a:=-T2 s-x) (b:=T2 s) (by grind) hT
   have h4:=Rat.mul_nonneg (a:=-x) (b:=-D-1) (by grind) (by grind)
   grind
  ·refine Decidable.byContradiction fun hn=>?_
   have h4:=Rat.mul_nonneg (a:=x) (b:=-D-1) (by grind) (by grind)
   grind
 ·have d1:(1:Rat)<=(D:Rat):=pn (a:=1) hd
  constructor
  ·refine Decidable.byContradiction fun hn=>?_
   have h4:=Rat.mul_nonneg (a:=-x) (b:=D-1) (by grind) (by grind)
   grind
  ·refine Decidable.byContradiction fun hn=>?_
   have h4:=Rat.mul_nonneg (a:=x) (b:=D-1) (by grind) (by grind)
   grind
theorem cj.low {D:Int} {s e:Nat} {x:Rat} (h:cj D s x) (hD0:D≠0) (hD:D.natAbs<=2^e) (hx:x≠0):1<=x*T2 e\/x*T2 e<=-1:=by
 obtain⟨z,h1,_⟩:=h
 have hz:z≠0:=fun h0=>by
  rw[h0]at h1
  exact(Rat.mul_eq_zero.1 (show x*(D:Rat)=0 from h1.symm)).elim hx (pO hD0)
 have z1:(D:Rat)<=T2 e:=by rw[vE];exact pn aa
 have z2:-(T2 e)<=(D:Rat):=by rw[vE,<-Rat.intCast_neg];exact pn aa
 have hzz:(z:Rat)<=-1\/1<=(z:Rat):=by
  rcases(show z<=-1\/1<=z by omega)with h|h
  ·exact .inl (pn (b:=-1) h)
  ·exact .inr (pn (a:=1) h)
 rcases(show x<0\/0<x by grind)with hx|hx
 ·right
  rcases hzz with h|h
  ·have:=Rat.mul_nonneg (a:=-x) (b:=T2 e-D) (by grind) (by grind);grind
  ·have:=Rat.mul_nonneg (a:=-x) (b:=T2 e+D) (by grind) (by grind);grind
 ·left
  rcases hzz with h|h
  ·have:=Rat.mul_nonneg (a:=x) (b:=T2 e+D) (by grind) (by grind);grind
  ·have:=Rat.mul_nonneg (a:=x) (b:=T2 e-D) (by grind) (by grind);grind
theorem Ab.pow {t:Rat} {r:Nat} (h:Ab t (T2 r)):∀n:Nat,Ab (t^n) (T2 (r*n))
 |0=>by rw[Rat.pow_zero,Nat.mul_zero];exact⟨by unfold T2;rw[Rat.pow_zero];decide+kernel,by unfold T2;rw[Rat.pow_zero];decide+kernel⟩
 |n+1=>by rw[Rat.pow_succ,Nat.mul_succ,qZ];exact(Ab.pow h n).mul h
def pL (n:Nat) (k:Nat->Rat) (s:Nat):Prop:=∀i,i<n->Ab (k i) (T2 s)
theorem dn.cf {n s:Nat} {k:Nat->Rat} (h:dn n k s):pL n k s:=by
 obtain⟨D,d1,d2,d3⟩:=h
 exact fun i hi=>(d3 i hi).ab d1
theorem wO {k:Nat->Rat} {s r:Nat} {t:Rat} (ht:Ab t (T2 r)):∀n,pL n k s->Ab (ev n k t) (T2 (s+n*(r+1)))
 |0,_=>Ab.zero (by have:=j9 (s+0*(r+1));grind)
 |n+1,h=>by
  rw[O6]
  have h1:=wO ht n fun i hi=>h i aa
  have h2:=(h n aa).mul (ht.pow n)
  rw[<-qZ]at h2
  have h3:T2 (s+r*n)<=T2 (s+n*(r+1)):=jR (by rw[Nat.mul_add,Nat.mul_comm n r];omega)
  have h4:T2 (s+n*(r+1)+1)<=T2 (s+(n+1)*(r+1)):=jR (by rw[Nat.add_mul];omega)
  rw[oO]at h4
  exact(h1.add h2).more (by grind)
theorem T9 {n s r m:Nat} {k:Nat->Rat} {t:Rat} (ht:Ab t (T2 r)) (h:pL n k s) (hm:m<=n):Ab (fH n k t m) (T2 (s+n*(r+1))):=by
 rw[GP m hm]
 refine(wO (s:=s) ht m fun i hi=>h _ aa).more (jR ?_)
 have:=Nat.mul_le_mul_right (r+1) hm
 omega
theorem JD {n s r:Nat} {k:Nat->Rat} {x:Rat} (hx:Ab x (T2 r)) (h:pL (n+1) k s):pL n (jI (n+1) k x) (s+(n+1)*(r+1)):=fun i hi=>T9 hx h aa
theorem FP {s r:Nat} {k:Nat->Rat} {x y:Rat} (hx:Ab x (T2 r)) (hy:Ab y (T2 r)):∀n,pL n k s->∃q:Rat,ev n k y-ev n k x=(y-x)*q/\Ab q (T2 (s+2*(n*(r+1))))
 |0,_=>⟨0,by show(0:Rat)-0=_;grind,Ab.zero (by have:=j9 (s+2*(0*(r+1)));grind)⟩
 |n+1,h=>by
  refine⟨ev n (jI (n+1) k x) y,by rw[u6 (c:=x) (t:=y)];grind,(wO hy n (JD hx h)).more (jR ?_)⟩
  rw[Nat.add_mul];omega
theorem ae4 {k:Nat->Rat} {x:Rat} (n:Nat):dz (n+1,k) x=ev n (jI (n+1) k x) x:=by
 have e:∀t,aC (n+1,k) t=aC (l9 x) t*aC (n,jI (n+1) k x) t+ev (n+1) k x:=fun t=>by rw[Bw];exact u6 n
 have e2:∀t,aC (g8 (n+1,k) (1,fun _=>-ev (n+1) k x)) t=aC (l9 x) t*aC (n,jI (n+1) k x) t:=fun t=>by
  rw[ja,e]
  show _+(0+-ev (n+1) k x*t^0)=_
  rw[Rat.pow_zero];grind
 have h:=kM e2 x
 rw[Bw,IA,show x-x=0 by grind,Rat.zero_mul,Rat.add_zero,Rat.one_mul]at h
 rw[show ev n (jI (n+1) k x) x=aC (n,jI (n+1) k x) x from rfl,<-h]
 show _=sg (fun i=>(ep (n+1,k) i+ep (1,fun _=>-ev (n+1) k x) i)*dX x i) (max (n+1) 1)
 rw[gZ (g:=fun i=>ep (n+1,k) i*dX x i+ep (1,fun _=>-ev (n+1) k x) i*dX x i) fun i _=>by grind,tM,vm (a:=(n+1,k)) (Nat.le_max_left _ _),vm (a:=(1,fun _=>-ev (n+1) k x)) (Nat.le_max_right _ _)]
 have z:dz (1,fun _=>-ev (n+1) k x) x=0:=by
  show 0+-ev (n+1) k x*(((0:Nat):Int)*x^(0-1):Rat)=0
  rw[show(((0:Nat):Int):Rat)=0 from rfl];grind
 rw[z,Rat.add_zero]
theorem Xm {a:PP} {s r:Nat} {x y:Rat} (hx:Ab x (T2 r)) (hy:Ab y (T2 r)) (h:pL a.1 a.2 s):∃q:Rat,aC a y-aC a x=(y-x)*(dz a x+(y-x)*q)/\Ab q (T2 (s+3*(a.1*(r+1)))):=by
 obtain⟨m,k⟩:=a
 cases m with
 |zero=>exact⟨0,by show(0:Rat)-0=(y-x)*(0+_);grind,Ab.zero (by have:=j9 (s+3*(0*(r+1)));grind)⟩
 |succ n=>
  obtain⟨q,h1,h2⟩:=FP hx hy n (JD hx h)
  refine⟨q,?_,h2.more (jR ?_)⟩
  ·rw[ae4]
   show ev (n+1) k y-ev (n+1) k x=_
   rw[u6 (c:=x) (t:=y)]
   have:ev n (jI (n+1) k x) y=ev n (jI (n+1) k x) x+(y-x)*q:=by grind
   rw[this];grind
  ·show s+(n+1)*(r+1)+2*(n*(r+1))<=s+3*((n+1)*(r+1))
   rw[Nat.add_mul];omega
def iH (a b:Rat):Prop:=(0<a/\0<b)\/(a<0/\b<0)
theorem gx {q:Rat} (h:0<q):bN q=1:=by unfold bN;rw[if_neg (by grind),if_pos h]
theorem gu {q:Rat} (h:q<0):bN q=-1:=by unfold bN;rw[if_pos h]
theorem nu {q:Rat} (h:q=0):bN q=0:=by subst h;rfl
def Av (k:Nat) (a b:Nat->Rat):Prop:=∀j,j<=k->iH (a j) (b j)\/(∃i,j=i+1/\i+2<=k/\iH (a i) (b i)/\iH (a (i+2)) (b (i+2))/\¬iH (a i) (a (i+2)))\/(j=0/\1<=k/\iH (a 1) (b 1)/\((0<a 1/\a 0<b 0)\/(a 1<0/\b 0<a 0)))
def vr (a:Nat->Rat) (n:Nat):Nat:=(bW (fun i=>bN (a i)) n).2
theorem lz (s:Nat->Int) (i:Nat):bW s (i+1)=(if s i=0 then(bW s i).1 else s i,if s i*(bW s i).1<0 then(bW s i).2+1 else(bW s i).2):=rfl
theorem iH.ga {a b:Rat} (h:iH a b):(bN a=1/\bN b=1)\/(bN a=-1/\bN b=-1):=by
 rcases h with⟨h1,h2⟩|⟨h1,h2⟩
 ·exact .inl ⟨gx h1,gx h2⟩
 ·exact .inr ⟨gu h1,gu h2⟩
theorem vH (a:Rat):bN a=1\/bN a=-1\/bN a=0:=by
 rcases(show 0<a\/a<0\/a=0 by grind)with h|h|h
 ·exact .inl (gx h)
 ·exact .inr (.inl (gu h))
 ·exact .inr (.inr (nu h))
theorem Pq {s:Nat->Int} {i:Nat} (h:s i≠0):(bW s (i+1)).1=s i:=by rw[lz];exact if_neg h
theorem OF {s:Nat->Int} {j:Nat} {e:Int} (he:e=1\/e=-1) (h1:(bW s (j+1)).1=e) (h2:s (j+2)=-e) (h3:s (j+1)=1\/s (j+1)=-1\/s (j+1)=0):(bW s (j+3)).2=(bW s (j+1)).2+1:=by
 rw[lz s (j+2),lz s (j+1),h1,h2]
 generalize (bW s (j+1)).2=c
 rcases he with rfl|rfl<;>rcases h3 with h|h|h<;>rw[h]<;>simp
theorem O8 {k:Nat} {a b:Nat->Rat} (h:Av k a b):∀m j,j+m=k->iH (a j) (b j)->((bW (fun i=>bN (a i)) (k+1)).2:Int)-(bW (fun i=>bN (b i)) (k+1)).2=((bW (fun i=>bN (a i)) (j+1)).2:Int)-(bW (fun i=>bN (b i)) (j+1)).2:=by
 intro m
 induction m using Nat.strongRecOn with
 |_ m ih=>
  intro j hj hs
  cases m with
  |zero=>rw[show k=j by omega]
  |succ m=>
   have ea:(bW (fun i=>bN (a i)) (j+1)).1=bN (a j):=Pq (s:=fun i=>bN (a i)) (by rcases hs.ga with⟨h1,_⟩|⟨h1,_⟩<;>simp[h1])
   have eb:(bW (fun i=>bN (b i)) (j+1)).1=bN (b j):=Pq (s:=fun i=>bN (b i)) (by rcases hs.ga with⟨_,h1⟩|⟨_,h1⟩<;>simp[h1])
   rcases h (j+1) aa with h1|⟨i,e,h2,_,h3,h4⟩|⟨h1,_⟩
   ·rw[ih m aa (j+1) aa h1,lz (fun i=>bN (a i)) (j+1),lz (fun i=>bN (b i)) (j+1),ea,eb]
    rcases hs.ga with⟨k1,k2⟩|⟨k1,k2⟩<;>rcases h1.ga with⟨k3,k4⟩|⟨k3,k4⟩<;>simp[k1,k2,k3,k4]<;>omega
   ·obtain rfl:i=j:=aa
    rw[ih (m-1) aa (i+2) aa h3]
    have key:bN (a (i+2))=-bN (a i)/\bN (b (i+2))=-bN (b i)/\(bN (a i)=1\/bN (a i)=-1)/\(bN (b i)=1\/bN (b i)=-1):=by
     rcases hs with⟨k1,k2⟩|⟨k1,k2⟩<;>rcases h3 with⟨k3,k4⟩|⟨k3,k4⟩
     ·exact absurd (.inl ⟨k1,k3⟩) h4
     ·rw[gx k1,gx k2,gu k3,gu k4];simp
     ·rw[gu k1,gu k2,gx k3,gx k4];simp
     ·exact absurd (.inr ⟨k1,k3⟩) h4
    rw[OF key.2.2.1 ea key.1 (vH _),OF key.2.2.2 eb key.2.1 (vH _)]
    omega
   ·omega
def rS (a:Nat->Rat):Int:=if bN (a 0)=0 then bN (a 1)else bN (a 0)
theorem Ti {k:Nat} {a b:Nat->Rat} (h:Av k a b):
  (vr a (k+1)=vr b (k+1)/\b 0≠0/\(a 0=0\/iH (a 0) (b 0))/\rS b=rS a/\rS a≠0)\/(vr a (k+1)=vr b (k+1)+1/\a 0≠0/\¬iH (a 0) (b 0)/\rS b=-rS a/\rS a≠0):=by
 rcases h 0 (Nat.zero_le _)with h0|⟨i,e,_⟩|⟨_,hk,h1,hm⟩
 ·left
  have ht:=O8 h k 0 aa h0
  have e1:(bW (fun i=>bN (a i)) (0+1)).2=0:=by rw[lz];simp[bW]
  have e2:(bW (fun i=>bN (b i)) (0+1)).2=0:=by rw[lz];simp[bW]
  rw[e1,e2]at ht
  refine⟨by unfold vr;omega,by rcases h0 with⟨h1,h2⟩|⟨h1,h2⟩<;>grind,.inr h0,?_⟩
  unfold rS
  rcases h0.ga with⟨h1,h2⟩|⟨h1,h2⟩<;>simp[h1,h2]
 ·omega
 ·have ht:=O8 h (k-1) 1 aa h1
  have ea:(bW (fun i=>bN (a i)) (1+1)).2=if bN (a 1)*bN (a 0)<0 then 1 else 0:=by
   rw[lz,lz]
   rcases vH (a 0)with h|h|h<;>simp[h,bW]
  have eb:(bW (fun i=>bN (b i)) (1+1)).2=if bN (b 1)*bN (b 0)<0 then 1 else 0:=by
   rw[lz,lz]
   rcases vH (b 0)with h|h|h<;>simp[h,bW]
  rw[ea,eb]at ht
  have ev:∀x y:Nat,(x:Int)-y=0->x=y:=fun x y h=>aa
  have ev1:∀x y:Nat,(x:Int)-y=1->x=y+1:=fun x y h=>aa
  unfold vr
  rcases hm with⟨p1,p2⟩|⟨p1,p2⟩
  ·have q1:0<b 1:=by rcases h1 with⟨_,h⟩|⟨h,_⟩<;>grind
   rw[gx p1,gx q1]at ht
   rcases(show 0<a 0\/a 0<0\/a 0=0 by grind)with ha|ha|ha
   ·have hb:0<b 0:=by grind
    rw[gx ha,gx hb]at ht
    exact .inl ⟨ev _ _ (by rw[ht];decide),by grind,.inr (.inl ⟨ha,hb⟩),by unfold rS;simp[gx ha,gx hb],by unfold rS;simp[gx ha]⟩
   ·rw[gu ha]at ht
    rcases(show 0<b 0\/b 0<0\/b 0=0 by grind)with hb|hb|hb
    ·rw[gx hb]at ht
     exact .inr ⟨ev1 _ _ (by rw[ht];decide),by grind,by unfold iH;grind,by unfold rS;simp[gu ha,gx hb],by unfold rS;simp[gu ha]⟩
    ·rw[gu hb]at ht
     exact .inl ⟨ev _ _ (by rw[ht];decide),by grind,.inr (.inr ⟨ha,hb⟩),by unfold rS;simp[gu ha,gu hb],by unfold rS;simp[gu ha]⟩
    ·rw[nu hb]at ht
     exact .inr ⟨ev1 _ _ (by rw[ht];decide),by grind,by unfold iH;grind,by unfold rS;simp[gu ha,nu hb,gx q1],by unfold rS;simp[gu ha]⟩
   ·have hb:0<b 0:=by grind
    rw[nu ha,gx hb]at ht
    exact .inl ⟨ev _ _ (by rw[ht];decide),by grind,.inl ha,by unfold rS;simp[nu ha,gx hb,gx p1],by unfold rS;simp[nu ha,gx p1]⟩
  ·have q1:b 1<0:=by rcases h1 with⟨h,_⟩|⟨_,h⟩<;>grind
   rw[gu p1,gu q1]at ht
   rcases(show 0<a 0\/a 0<0\/a 0=0 by grind)with ha|ha|ha
   ·rw[gx ha]at ht
    rcases(show 0<b 0\/b 0<0\/b 0=0 by grind)with hb|hb|hb
    ·rw[gx hb]at ht
     exact .inl ⟨ev _ _ (by rw[ht];decide),by grind,.inr (.inl ⟨ha,hb⟩),by unfold rS;simp[gx ha,gx hb],by unfold rS;simp[gx ha]⟩
    ·rw[gu hb]at ht
     exact .inr ⟨ev1 _ _ (by rw[ht];decide),by grind,by unfold iH;grind,by unfold rS;simp[gx ha,gu hb],by unfold rS;simp[gx ha]⟩
    ·rw[nu hb]at ht
     exact .inr ⟨ev1 _ _ (by rw[ht];decide),by grind,by unfold iH;grind,by unfold rS;simp[gx ha,nu hb,gu q1],by unfold rS;simp[gx ha]⟩
   ·have hb:b 0<0:=by grind
    rw[gu ha,gu hb]at ht
    exact .inl ⟨ev _ _ (by rw[ht];decide),by grind,.inr (.inr ⟨ha,hb⟩),by unfold rS;simp[gu ha,gu hb],by unfold rS;simp[gu ha]⟩
   ·have hb:b 0<0:=by grind
    rw[nu ha,gu hb]at ht
    exact .inl ⟨ev _ _ (by rw[ht];decide),by grind,.inl ha,by unfold rS;simp[nu ha,gu hb,gu p1],by unfold rS;simp[nu ha,gu p1]⟩
theorem RH {a q:Nat->Rat} {k:Nat} {η Q P:Rat} (hr:∀j,j+2<=k->a j=q j*a (j+1)-a (j+2)) (hq:∀j,j+2<=k->Ab (q j) Q) (hQ:0<=Q) (hP:Q+1<=P) (hη:0<η) (hl:P^k*η<=a k\/a k<=-(P^k*η)) {j:Nat} (hj:j+1<=k) (h1:-η<a j) (h2:a j<η):P*η<=a (j+1)\/a (j+1)<=-(P*η):=by
 refine Decidable.byContradiction fun hn=>?_
 have hpw:∀i:Nat,1<=P^i:=fun i=>by
  induction i with
  |zero=>rw[Rat.pow_zero];decide
  |succ i ih=>rw[Rat.pow_succ];have:=Rat.mul_nonneg (a:=P^i) (b:=P-1) (by grind) (by grind);grind
 have step:∀i,j+1+i<=k->(-(P^i*η)<a (j+i)/\a (j+i)<P^i*η)/\-(P^(i+1)*η)<a (j+1+i)/\a (j+1+i)<P^(i+1)*η:=by
  intro i
  induction i with
  |zero=>
   intro _
   rw[Rat.pow_zero,Rat.pow_succ,Rat.pow_zero]
   exact⟨⟨by rw[Nat.add_zero];grind,by rw[Nat.add_zero];grind⟩,by rw[Nat.add_zero];grind,by rw[Nat.add_zero];grind⟩
  |succ i ih=>
   intro hi
   obtain⟨⟨i1,i2⟩,i3,i4⟩:=ih aa
   have e:=hr (j+i) aa
   have hqq:=hq (j+i) aa
   rw[show j+i+1=j+1+i by omega,show j+i+2=j+1+(i+1) by omega]at e
   have hX:=Rat.mul_pos (a:=P^i) (b:=η) (by have:=hpw i;grind) hη
   have hm:Ab (q (j+i)*a (j+1+i)) (Q*(P^(i+1)*η)):=hqq.mul ⟨by grind,by grind⟩
   obtain⟨m1,m2⟩:=hm
   rw[show j+(i+1)=j+1+i by omega]
   refine⟨⟨i3,i4⟩,?_⟩
   rw[Rat.pow_succ P (i+1)]
   rw[Rat.pow_succ P i]at*
   generalize P^i=X at*
   have g1:=Rat.mul_nonneg (a:=X*η) (b:=P*(P-Q-1)) (by grind) (Rat.mul_nonneg (by grind) (by grind))
   have g2:=Rat.mul_nonneg (a:=X*η) (b:=P-1) (by grind) (by grind)
   constructor<;>grind
 obtain⟨_,s1,s2⟩:=step (k-j-1) aa
 rw[show j+1+(k-j-1)=k by omega,show k-j-1+1=k-j by omega]at s1 s2
 have hle:P^(k-j)*η<=P^k*η:=by
  have e:P^k=P^(k-j)*P^j:=by rw[<-pow_add'];congr 1;omega
  rw[e]
  have g1:=Rat.mul_nonneg (a:=P^(k-j)*η) (b:=P^j-1) (Rat.mul_nonneg (by have:=hpw (k-j);grind) (by grind)) (by have:=hpw j;grind)
  grind
 rcases hl with hl|hl<;>grind
theorem TD {a b q:Nat->Rat} {k:Nat} {η ε Q P:Rat} (hr:∀j,j+2<=k->a j=q j*a (j+1)-a (j+2)) (hq:∀j,j+2<=k->Ab (q j) Q) (hQ:0<=Q) (hP:Q+1<=P) (hη:0<η) (hl:P^k*η<=a k\/a k<=-(P^k*η)) (hε:ε<η)
  (hL:∀j,j<=k->Ab (b j-a j) ε) (hd:1<=k->∃d w:Rat,0<d/\b 0-a 0=d*(a 1+w)/\Ab w ε):Av k a b:=by
 have big:∀j,j<=k->η<=a j\/a j<=-η->iH (a j) (b j):=fun j hj h=>by
  obtain⟨h1,h2⟩:=hL j hj
  rcases h with h|h
  ·exact .inl ⟨by grind,by grind⟩
  ·exact .inr ⟨by grind,by grind⟩
 have hPη:=Rat.mul_nonneg (a:=P-1) (b:=η) (by grind) (by grind)
 intro j hj
 rcases(show(η<=a j\/a j<=-η)\/(-η<a j/\a j<η) by grind)with h|⟨h1,h2⟩
 ·exact .inl (big j hj h)
 ·have hjk:j+1<=k:=by
   refine Decidable.byContradiction fun hn=>?_
   obtain rfl:j=k:=aa
   have hpw:1<=P^j:=by
    clear hl hj hn h1 h2 hL hr hq hd big
    induction j with
    |zero=>rw[Rat.pow_zero];decide
    |succ i ih=>rw[Rat.pow_succ];have:=Rat.mul_nonneg (a:=P^i) (b:=P-1) (by grind) (by grind);grind
   have:=Rat.mul_nonneg (a:=P^j-1) (b:=η) (by grind) (by grind)
   rcases hl with hl|hl<;>grind
  have hn:=RH hr hq hQ hP hη hl hjk h1 h2
  have hb1:iH (a (j+1)) (b (j+1)):=big _ hjk (by rcases hn with h|h<;>grind)
  cases j with
  |zero=>
   refine .inr (.inr ⟨rfl,hjk,hb1,?_⟩)
   obtain⟨d,w,d0,e,w1,w2⟩:=hd hjk
   rcases hn with h|h
   ·have:=Rat.mul_pos (a:=d) (b:=a (0+1)+w) d0 (by grind)
    exact .inl ⟨by grind,by grind⟩
   ·have:=Rat.mul_pos (a:=d) (b:=-(a (0+1)+w)) d0 (by grind)
    exact .inr ⟨by grind,by grind⟩
  |succ i=>
   have e:=hr i aa
   obtain⟨m1,m2⟩:=(hq i aa).mul (show Ab (a (i+1)) η from⟨by grind,by grind⟩)
   have hQη:=Rat.mul_nonneg (a:=P-Q-1) (b:=η) (by grind) (by grind)
   refine .inr (.inl ⟨i,rfl,aa,big i aa ?_,hb1,?_⟩)
   ·rcases hn with h|h
    ·right;grind
    ·left;grind
   ·unfold iH
    rcases hn with h|h<;>grind
abbrev dh (c:PP) (j:Nat):PP:=(bJ (dQ c) j).1
abbrev cV (c:PP):Nat:=eV (dQ c)
theorem mq {c:PP}:Trim (dQ c).1/\Trim (dQ c).2:=⟨kn,dI⟩
theorem HK {c:PP} (tc:Trim c) (c0:0<c.1) {j:Nat} (hj:j<=cV c):0<(dh c j).1:=by
 cases j with
 |zero=>exact z8 tc c0
 |succ j=>
  have:=(mY (s:=dQ c) mq.1 mq.2).2.2 j (by have:cV c=eV (dQ c):=rfl;omega)
  exact Nat.pos_of_ne_zero this
theorem HR {c:PP} (j:Nat):Trim (dh c j):=(ot mq.1 mq.2 j).1
theorem Yb {c:PP}:(dh c (cV c+1)).1=0:=(mY (s:=dQ c) mq.1 mq.2).2.1
theorem O9 {c:PP} (tc:Trim c) (c0:0<c.1) {j:Nat} (hj:j+1<=cV c) (t:Rat):aC (dh c j) t=aC (fA (dh c j) (dh c (j+1))) t*aC (dh c (j+1)) t-aC (dh c (j+2)) t:=by
 have h:=v9 (a:=dh c j) (HK tc c0 hj) t
 have e:aC (dh c (j+2)) t=((-1:Int):Rat)*aC (dj (dh c j) (dh c (j+1))) t:=ux
 rw[show((-1:Int):Rat)=-1 from rfl]at e
 rw[e]
 grind
theorem PD {c:PP} (tc:Trim c) (c0:0<c.1):∀i,i<=cV c->Dv (dh c (cV c)) (dh c (cV c-i))/\Dv (dh c (cV c)) (dh c (cV c-i+1))
 |0,_=>⟨.refl _,tZ,fun t=>by rw[Nat.sub_zero,jx Yb,Ba,Rat.mul_zero]⟩
 |i+1,hi=>by
  obtain⟨h1,h2⟩:=PD tc c0 i aa
  have e:=fun t=>O9 tc c0 (c:=c) (j:=cV c-(i+1)) aa t
  rw[show cV c-(i+1)+1=cV c-i by omega,show cV c-(i+1)+2=cV c-i+1 by omega]at e
  refine⟨Dv.comb (u:=fA (dh c (cV c-(i+1))) (dh c (cV c-i))) (v:=gi (-1) gW) h1 h2 fun t=>?_,by rw[show cV c-(i+1)+1=cV c-i by omega];exact h1⟩
  rw[e,fV,jm];grind
theorem aeD {c:PP} (tc:Trim c) (c0:0<c.1):(dh c (cV c)).1=1:=by
 obtain⟨h1,h2⟩:=PD tc c0 (cV c) aT
 rw[Nat.sub_self]at h1 h2
 obtain⟨u,v,h3⟩:=DQ tc c0
 have h4:Dv (dh c (cV c)) gW:=Dv.comb (u:=u) (v:=v) h1 h2 fun t=>by rw[jm];exact(h3 t).symm
 have h5:=h4.len (show 0<1 by decide) E4 (HR _)
 have h6:=HK tc c0 (Nat.le_refl (cV c))
 have h5:(dh c (cV c)).1<=1:=h5
 omega
structure lC (c:PP) (s q:Nat):Prop where
 tr:Trim c
 p0:0<c.1
 k7:cV c<=7
 bd:∀j,j<=cV c->Bd (dh c j) s/\(dh c j).1<=7
 qu:∀j,j+1<=cV c->Bd (fA (dh c j) (dh c (j+1))) q/\(fA (dh c j) (dh c (j+1))).1<=7
theorem dD.sm {c:PP} (h:dD c):∀j,j<=cV c->∃B,B+1<=1176606/\Bd (bJ (dQ c) j).1 B/\Bd (bJ (dQ c) j).2 B/\(bJ (dQ c) j).1.1<=7/\(bJ (dQ c) j).2.1<(bJ (dQ c) j).1.1:=fun j hj=>by
 obtain⟨f1,f2⟩:=h.free
 have hfd:Bd (aW (bh c)) 806:=f1.bd.cO aa
 have hdl:(aW (bh c)).1<=(bh c).1-1:=fE
 have hp:=f1.p0
 obtain⟨B,b1,b2,b3,b4,b5⟩:=Gc (a:=bh c) (b:=aW (bh c)) kn dI f2 aa (f1.bd.more (show 800<=806 by omega)) hfd j hj
 have h3:3^(7-(bJ (bh c,aW (bh c)) j).1.1)<=3^6:=yF aa
 have h4:=Nat.mul_le_mul_left (2*(806+1)) h3
 exact⟨B,aa,b2,b3,b4,b5⟩
theorem dD.pz {c:PP} (h:dD c):lC c 1176605 9412848 where
 tr:=h.tr
 p0:=h.p0
 k7:=by
  obtain⟨f1,f2⟩:=h.free
  have:=(mY (s:=dQ c) mq.1 mq.2).1
  have h2:(dQ c).2.1<=(bh c).1-1:=fE
  have h3:cV c=eV (dQ c):=rfl
  omega
 bd:=fun j hj=>by
  obtain⟨B,b1,b2,b3,b4,b5⟩:=h.sm j hj
  exact⟨b2.more aa,b4⟩
 qu:=fun j hj=>by
  obtain⟨B,b1,b2,b3,b4,b5⟩:=h.sm j aa
  have h0:0<(bJ (dQ c) j).2.1:=HK h.tr h.p0 hj
  have hr:=(b2.rem b3 h0 (ot mq.1 mq.2 j).2).2.1
  have hM:(bJ (dQ c) j).1.1-((bJ (dQ c) j).2.1-1)<=7:=aa
  have:=Nat.mul_le_mul_right (B+1) hM
  exact⟨hr.more aa,Nat.le_trans (show bH _ _<=_ from fE) hM⟩
def m9 (s q r:Nat):Nat:=2*s+21*(r+1)+7*(q+7*(r+1)+1)
theorem Xj {a:PP} {s r:Nat} {t:Rat} (h:pL a.1 a.2 s) (hl:a.1<=7) (ht:Ab t (T2 r)):Ab (aC a t) (T2 (s+7*(r+1))):=
 (wO ht _ h).more (jR (by have:=Nat.mul_le_mul_right (r+1) hl;omega))
theorem Jn (a:Nat):∀k:Nat,T2 a^k=T2 (a*k)
 |0=>by rw[Rat.pow_zero];unfold T2;rw[Nat.mul_zero,Rat.pow_zero]
 |k+1=>by rw[Rat.pow_succ,Jn a k,Nat.mul_succ,qZ]
theorem lC.gp {c:PP} {s q r:Nat} (h:lC c s q) {x y:Rat} (hx:Ab x (T2 r)) (hy:Ab y (T2 r)) (hxy:x<y) (hf:(y-x)*T2 (m9 s q r)<1):
  Av (cV c) (fun j=>aC (dh c j) x) (fun j=>aC (dh c j) y):=by
 obtain⟨Q,hQ⟩:∃Q,Q=T2 (q+7*(r+1)):=⟨_,rfl⟩
 obtain⟨P,hP⟩:∃P,P=T2 (q+7*(r+1)+1):=⟨_,rfl⟩
 have hQ1:1<=Q:=hQ▸Cg _
 have hPQ:P=2*Q:=by rw[hP,hQ,oO]
 have hPk:P^cV c=T2 ((q+7*(r+1)+1)*cV c):=by
  rw[hP];exact Jn _ _
 obtain⟨η,h1⟩:∃η:Rat,η=(P^cV c*T2 s)⁻¹:=⟨_,rfl⟩
 have hpos:0<P^cV c*T2 s:=by rw[hPk];exact Rat.mul_pos (j9 _) (j9 _)
 have hη:0<η:=by rw[h1];exact Rat.inv_pos.2 hpos
 have hη1:η*(P^cV c*T2 s)=1:=by rw[h1];exact Rat.inv_mul_cancel _ (by grind)
 have hd:0<y-x:=by grind
 refine TD (q:=fun j=>aC (fA (dh c j) (dh c (j+1))) x) (k:=cV c) (η:=η) (ε:=(y-x)*T2 (s+21*(r+1))) (Q:=Q) (P:=P) (fun j hj=>O9 h.tr h.p0 aa x) (fun j hj=>?_) (by grind) (by grind) hη ?_ ?_ (fun j hj=>?_) (fun hk=>?_)
 ·obtain⟨b1,b2⟩:=h.qu j aa
  rw[hQ];exact Xj (dn.cf b1) b2 hx
 ·have hl:=aeD h.tr h.p0
  obtain⟨⟨D,d1,d2,d3⟩,_⟩:=h.bd (cV c) aT
  have e:aC (dh c (cV c)) x=(dh c (cV c)).2 0:=by
   show ev (dh c (cV c)).1 (dh c (cV c)).2 x=_
   rw[hl]
   show 0+(dh c (cV c)).2 0*x^0=_
   rw[Rat.pow_zero];grind
  have hne:(dh c (cV c)).2 0≠0:=by
   rcases HR (c:=c) (cV c)with h0|h0
   ·omega
   ·rw[hl]at h0;exact h0
  have hlow:=(d3 0 aa).low d1 d2 hne
  have hTs:=j9 s
  have e2:P^cV c*η*T2 s=1:=by grind
  show P^cV c*η<=aC (dh c (cV c)) x\/aC (dh c (cV c)) x<=-(P^cV c*η)
  rw[e]
  generalize (dh c (cV c)).2 0=a at*
  generalize P^cV c*η=w at*
  rcases hlow with hlow|hlow
  ·left
   refine Decidable.byContradiction fun hn=>?_
   have:=Rat.mul_pos (a:=w-a) (b:=T2 s) (by grind) hTs
   grind
  ·right
   refine Decidable.byContradiction fun hn=>?_
   have:=Rat.mul_pos (a:=w+a) (b:=T2 s) (by grind) hTs
   grind
 ·refine Decidable.byContradiction fun hn=>?_
  have g1:=Rat.mul_nonneg (a:=(y-x)*T2 (s+21*(r+1))-η) (b:=P^cV c*T2 s) (by grind) (by grind)
  have g2:(y-x)*T2 (s+21*(r+1))*(P^cV c*T2 s)<=(y-x)*T2 (m9 s q r):=by
   rw[hPk,<-qZ,Rat.mul_assoc,<-qZ]
   have hle:T2 (s+21*(r+1)+((q+7*(r+1)+1)*cV c+s))<=T2 (m9 s q r):=jR (by
    have:=Nat.mul_le_mul_left (q+7*(r+1)+1) h.k7
    unfold m9;omega)
   exact Rat.mul_le_mul_of_nonneg_left hle (by grind)
  grind
 ·obtain⟨b1,b2⟩:=h.bd j hj
  obtain⟨w,e,hw⟩:=FP hx hy (dh c j).1 (dn.cf b1)
  show Ab (ev (dh c j).1 (dh c j).2 y-ev (dh c j).1 (dh c j).2 x) _
  rw[e]
  refine Ab.mul ⟨by grind,by grind⟩ (hw.more (jR ?_))
  have:=Nat.mul_le_mul_right (r+1) b2
  omega
 ·obtain⟨b1,b2⟩:=h.bd 0 (Nat.zero_le _)
  obtain⟨w,e,hw⟩:=Xm (a:=dh c 0) hx hy (dn.cf b1)
  refine⟨y-x,(y-x)*w,hd,?_,Ab.mul ⟨by grind,by grind⟩ (hw.more (jR ?_))⟩
  ·show aC (dh c 0) y-aC (dh c 0) x=(y-x)*(aC (dh c 1) x+(y-x)*w)
   rw[e]
   have:aC (dh c 1) x=dz (dh c 0) x:=gM (a:=bh c)
   rw[this]
  ·have:=Nat.mul_le_mul_right (r+1) b2
   omega
theorem AY (x:Rat):∃r:Nat,Ab x (T2 r):=by
 refine⟨x.num.natAbs,cj.ab (D:=(x.den:Int)) ⟨x.num,?_,Nat.le_of_lt Nat.lt_two_pow_self⟩ (by have:=x.den_pos;omega)⟩
 have hd:((x.den:Int):Rat)≠0:=pO (D:=(x.den:Int)) (by have:=x.den_pos;omega)
 have:=Rat.num_divInt_den x
 rw[Rat.divInt_eq_div]at this
 have h2:=Rat.div_mul_cancel (a:=(x.num:Rat)) hd
 rw[this]at h2
 exact h2.symm
theorem OU (k:Nat->Rat):∀n,∃s,pL n k s
 |0=>⟨0,fun i hi=>absurd hi (Nat.not_lt_zero i)⟩
 |n+1=>by
  obtain⟨s,h⟩:=OU k n
  obtain⟨r,h'⟩:=AY (k n)
  refine⟨s+r,fun i hi=>?_⟩
  by_cases hn:i=n
  ·subst hn;exact h'.more (jR aa)
  ·exact(h i aa).more (jR aa)
theorem vW (a:PP) (r:Nat):∃e:Nat,(∀t,Ab t (T2 r)->Ab (aC a t) (T2 e))/\∀x y,Ab x (T2 r)->Ab y (T2 r)->∃q,aC a y-aC a x=(y-x)*q/\Ab q (T2 e):=by
 obtain⟨s,h⟩:=OU a.2 a.1
 refine⟨s+2*(a.1*(r+1)),fun t ht=>(wO ht a.1 h).more (jR aa),fun x y hx hy=>FP hx hy a.1 h⟩
theorem Ru (q:Rat):∃n:Nat,q<((n:Int):Rat):=by
 obtain⟨r,_,h⟩:=AY q
 refine⟨2^r+1,?_⟩
 rw[vE]at h
 have:(((2^r:Nat):Int):Rat)+1=(((2^r+1:Nat):Int):Rat):=by rw[Int.natCast_add,Rat.intCast_add];rfl
 rw[<-this];grind
theorem adR {d N T:Rat} (hd:0<d) (hN:1<=N) (hT:0<T) (h:d*T<N+1):∃t,0<t/\t<d/\t*T<1/\(d-t)*T<N:=by
 have ht:(N+1)*(N+1)⁻¹=1:=Rat.mul_inv_cancel _ (by grind)
 have hip:0<(N+1)⁻¹:=Rat.inv_pos.2 (by grind)
 generalize (N+1)⁻¹=w at*
 have e1:d*((N+1)*w)=d:=by rw[ht,Rat.mul_one]
 have e2:N*((N+1)*w)=N:=by rw[ht,Rat.mul_one]
 have e3:d*T*((N+1)*w)=d*T:=by rw[ht,Rat.mul_one]
 have hNw:0<N*w:=Rat.mul_pos (by grind) hip
 have g1:=Rat.mul_pos hd hip
 have g2:=Rat.mul_pos hd hNw
 have g3:=Rat.mul_pos (a:=N+1-d*T) (b:=w) (by grind) hip
 have g4:=Rat.mul_pos (a:=N+1-d*T) (b:=N*w) (by grind) hNw
 exact⟨d*w,g1,by grind,by grind,by grind⟩
theorem K9 {P:Rat->Rat->Prop} {E:Nat} {X Y:Rat} (base:∀x y,X<=x->y<=Y->x<y->(y-x)*T2 E<1->P x y) (step:∀x m y,X<=x->y<=Y->x<m->m<y->P x m->P m y->P x y) {x y:Rat} (hX:X<=x) (hY:y<=Y) (hxy:x<y):P x y:=by
 have key:∀(n:Nat) (x:Rat),X<=x->x<y->(y-x)*T2 E<(((n+1:Nat):Int):Rat)->P x y:=by
  intro n
  induction n with
  |zero=>intro x h1 h2 h3;exact base x y h1 hY h2 h3
  |succ n ih=>
   intro x h1 h2 h3
   have eN:(((n+1+1:Nat):Int):Rat)=(((n+1:Nat):Int):Rat)+1:=by rw[Int.natCast_add (n+1) 1,Rat.intCast_add];rfl
   rw[eN]at h3
   have hd:0<y-x:=by clear base step ih;grind
   obtain⟨t,t1,t2,t3,t4⟩:=adR hd (pn (a:=1) aa) (j9 E) h3
   have a1:x<x+t/\x+t<y/\x+t-x=t/\y-(x+t)=y-x-t/\x+t<=Y/\X<=x+t:=by
    clear base step ih t3 t4 h3 eN
    exact⟨by grind,by grind,by grind,by grind,by grind,by grind⟩
   exact step x (x+t) y h1 hY a1.1 a1.2.1 (base _ _ h1 a1.2.2.2.2.1 a1.1 (by rw[a1.2.2.1];exact t3)) (ih _ a1.2.2.2.2.2 a1.2.1 (by rw[a1.2.2.2.1];exact t4))
 obtain⟨n,hn⟩:=Ru ((y-x)*T2 E)
 refine key n x hX hxy ?_
 have:(((n+1:Nat):Int):Rat)=((n:Int):Rat)+1:=by rw[Int.natCast_add,Rat.intCast_add];rfl
 rw[this]
 clear base step key
 grind
def mV (c:PP) (x:Rat):Nat:=vr (fun j=>aC (dh c j) x) (cV c+1)
def bt (c:PP) (x y:Rat):Int:=if x>=y then 0 else(mV c x:Int)-mV c y-(if aC (bh c) y=0 then 1 else 0)
def rC (c:PP) (x:Rat):Int:=rS fun j=>aC (dh c j) x
theorem qD {c:PP} {x y:Rat} (h:x<y):bt c x y=(mV c x:Int)-mV c y-(if aC (bh c) y=0 then 1 else 0):=if_neg (by grind)
def Rg (r:Nat) (x y:Rat):Prop:=-(T2 r)<=x/\y<=T2 r/\x<y
theorem Rg.ab {r:Nat} {x y:Rat} (h:Rg r x y):Ab x (T2 r)/\Ab y (T2 r):=by
 obtain⟨h1,h2,h3⟩:=h
 exact⟨⟨h1,by grind⟩,by grind,h2⟩
theorem LO {x y:Rat} (h:x<y):∃r,Rg r x y:=by
 obtain⟨r,h1,_⟩:=AY x
 obtain⟨r',_,h2⟩:=AY y
 have a:=jR (show r<=r+r' by omega)
 have b:=jR (show r'<=r+r' by omega)
 exact⟨r+r',by grind,by grind,h⟩
theorem lC.near {c:PP} {s q r:Nat} (h:lC c s q) {x y:Rat} (hr:Rg r x y) (hf:(y-x)*T2 (m9 s q r)<1):
  (mV c x=mV c y/\aC (bh c) y≠0/\(aC (bh c) x=0\/iH (aC (bh c) x) (aC (bh c) y))/\rC c y=rC c x/\rC c x≠0)\/(mV c x=mV c y+1/\aC (bh c) x≠0/\¬iH (aC (bh c) x) (aC (bh c) y)/\rC c y=-rC c x/\rC c x≠0):=
 Ti (h.gp hr.ab.1 hr.ab.2 hr.2.2 hf)
theorem lC.short {c:PP} {s q r:Nat} (h:lC c s q) {x y:Rat} (hr:Rg r x y) (hf:(y-x)*T2 (m9 s q r)<1):bt c x y=0\/bt c x y=1:=by
 rw[qD hr.2.2]
 rcases h.near hr hf with⟨h1,h2,_⟩|⟨h1,_⟩
 ·rw[if_neg h2,h1];omega
 ·rw[h1];split<;>omega
theorem xz {c:PP} {x m y:Rat} (h1:x<m) (h2:m<y):bt c x y=bt c x m+(if aC (bh c) m=0 then 1 else 0)+bt c m y:=by
 rw[qD h1,qD h2,qD (show x<y by grind)];omega
theorem lC.Ai {c:PP} {s q:Nat} (h:lC c s q) (x y:Rat):0<=bt c x y:=by
 by_cases hxy:x<y
 ·obtain⟨r,hr⟩:=LO hxy
  refine K9 (P:=fun x y=>0<=bt c x y) (E:=m9 s q r) (X:=-(T2 r)) (Y:=T2 r) (fun x y h1 h2 h3 h4=>?_) (fun x m y _ _ h1 h2 p1 p2=>?_) hr.1 hr.2.1 hxy
  ·rcases h.short ⟨h1,h2,h3⟩ h4 with h|h<;>rw[h]<;>decide
  ·rw[xz h1 h2];split<;>omega
 ·rw[show bt c x y=0 from if_pos (by grind)];decide
theorem lC.root {c:PP} {s q:Nat} (h:lC c s q) {x m y:Rat} (h1:x<m) (h2:m<y) (hm:aC (bh c) m=0):1<=bt c x y:=by
 have a:=h.Ai x m
 have b:=h.Ai m y
 rw[xz h1 h2,if_pos hm];omega
theorem Ll {a b w h:Rat} (hw:Ab w h) (e:b-a=w) (hs:¬iH a b) (ha:a≠0) (hb:b≠0):Ab a h/\Ab b h:=by
 obtain⟨w1,w2⟩:=hw
 unfold iH at hs
 rcases(show a<0\/0<a by grind)with h1|h1<;>rcases(show b<0\/0<b by grind)with h2|h2
 ·exact absurd (.inr ⟨h1,h2⟩) hs
 ·exact⟨⟨by grind,by grind⟩,by grind,by grind⟩
 ·exact⟨⟨by grind,by grind⟩,by grind,by grind⟩
 ·exact absurd (.inl ⟨h1,h2⟩) hs
theorem Vg {c d:PP} {s q s' q':Nat} (hc:lC c s q) (hd:lC d s' q') (hdv:Dv (bh d) (bh c)) (x y:Rat):bt d x y<=bt c x y:=by
 by_cases hxy:x<y
 ·obtain⟨r,hr⟩:=LO hxy
  obtain⟨H,hH⟩:=hdv
  obtain⟨u,v,huv⟩:=DQ hc.tr hc.p0
  obtain⟨e1,u1,_⟩:=vW u r
  obtain⟨e2,v1,_⟩:=vW v r
  obtain⟨e3,_,g1⟩:=vW (bh d) r
  obtain⟨e4,_,k1⟩:=vW H r
  obtain⟨e5,g2,_⟩:=vW (aW (bh d)) r
  obtain⟨e6,k2,_⟩:=vW (aW H) r
  obtain⟨e,he⟩:∃e,e=e1+e2+e3+e4+e5+e6:=⟨_,rfl⟩
  have up:∀{z:Rat} {m:Nat},Ab z (T2 m)->m<=e->Ab z (T2 e):=fun h hm=>h.more (jR hm)
  -- both factors are small nowhere
  have no:∀z w:Rat,Ab z (T2 r)->0<=w->w*T2 (3*e+2)<1->Ab (aC (bh d) z) (w*T2 e)->Ab (aC H z) (w*T2 e)->False:=fun z w hz hw hw1 a1 a2=>by
   have b1:=(up (u1 z hz) aa).mul (a1.mul (a2.more (N:=T2 e) ?_))
   have b2:=(up (v1 z hz) aa).mul (((up (g2 z hz) aa).mul a2).add (a1.mul (up (k2 z hz) aa)))
   ·have h1:=huv z
    rw[hH,gM,kM hH,<-gM,<-gM]at h1
    obtain⟨l1,l2⟩:=b1
    obtain⟨l3,l4⟩:=b2
    have t3:T2 (3*e+2)=4*(T2 e*T2 e*T2 e):=by
     rw[oO,oO,<-qZ,<-qZ,show e+e+e=3*e by omega];grind
    rw[t3]at hw1
    have p:=Rat.mul_nonneg hw (Rat.mul_nonneg (Rat.mul_nonneg (Rat.le_of_lt (j9 e)) (Rat.le_of_lt (j9 e))) (Rat.le_of_lt (j9 e)))
    generalize T2 e=T at*
    have m1:T*(w*T*T)=w*(T*T*T):=by grind
    have m2:T*(T*(w*T)+w*T*T)=2*(w*(T*T*T)):=by grind
    rw[m1]at l1 l2
    rw[m2]at l3 l4
    grind
   ·have t1:=Cg (3*e+2)
    have t2:=j9 e
    have:=Rat.mul_nonneg (a:=w) (b:=T2 (3*e+2)-1) hw (by grind)
    have:=Rat.mul_nonneg (a:=1-w) (b:=T2 e) (by grind) (by grind)
    grind
  obtain⟨E,hE⟩:∃E,E=m9 s q r+m9 s' q' r+(3*e+2):=⟨_,rfl⟩
  have le:∀{w:Rat} {m:Nat},0<=w->w*T2 E<1->m<=E->w*T2 m<1:=fun {w m} hw h hm=>by
   have:=Rat.mul_le_mul_of_nonneg_left (c:=w) (jR hm) hw
   grind
  refine K9 (P:=fun x y=>bt d x y<=bt c x y) (E:=E) (X:=-(T2 r)) (Y:=T2 r) (fun x y h1 h2 h3 h4=>?_) (fun x m y _ _ h1 h2 p1 p2=>?_) hr.1 hr.2.1 hxy
  ·have hw:0<=y-x:=by grind
   have R:Rg r x y:=⟨h1,h2,h3⟩
   have c1:=hc.near R (le hw h4 aa)
   have d1:=hd.near R (le hw h4 aa)
   have c2:=hc.Ai x y
   have hno:=fun z hz=>no z (y-x) hz hw (le hw h4 aa)
   refine Decidable.byContradiction fun hn=>?_
   rw[qD h3,qD h3]at hn
   rw[qD h3]at c2
   rcases d1 with⟨e1,n1,_⟩|⟨e1,n1,n2,_⟩
   ·rw[if_neg n1]at hn;omega
   ·have gy:aC (bh d) y≠0:=fun h0=>by rw[if_pos h0]at hn;omega
    rw[if_neg gy]at hn
    obtain⟨w1,q1,q2⟩:=g1 x y R.ab.1 R.ab.2
    obtain⟨w2,q3,q4⟩:=k1 x y R.ab.1 R.ab.2
    have self:Ab (y-x) (y-x):=⟨by grind,by grind⟩
    have zz:0<=(y-x)*T2 e:=Rat.mul_nonneg hw (Rat.le_of_lt (j9 e))
    obtain⟨o1,o2⟩:=Ll (self.mul (up q2 aa)) q1 n2 n1 gy
    rcases c1 with⟨e2,m1,m2,_⟩|⟨e2,m1,m2,_⟩
    ·rw[if_neg m1]at hn c2
     rcases m2 with m2|m2
     ·have hx0:aC H x=0:=by rw[hH]at m2;exact(Rat.mul_eq_zero.1 m2).resolve_left n1
      exact hno x R.ab.1 o1 (by rw[hx0];exact Ab.zero zz)
     ·have fx:aC (bh c) x≠0:=by rcases m2 with⟨k,_⟩|⟨k,_⟩<;>grind
      have hx0:aC H x≠0:=fun h0=>fx (by rw[hH,h0,Rat.mul_zero])
      have hy0:aC H y≠0:=fun h0=>m1 (by rw[hH,h0,Rat.mul_zero])
      have hs:¬iH (aC H x) (aC H y):=fun hs=>by
       rw[hH,hH]at m2
       have:∀a b:Rat,0<a->0<b->0<a*b:=fun a b h1 h2=>Rat.mul_pos h1 h2
       unfold iH at n2 m2 hs
       rcases(show aC (bh d) x<0\/0<aC (bh d) x by grind)with s1|s1<;>rcases(show aC (bh d) y<0\/0<aC (bh d) y by grind)with s2|s2
       ·exact n2 (.inr ⟨s1,s2⟩)
       ·rcases hs with⟨s3,s4⟩|⟨s3,s4⟩
        ·have p1 := this _ _ (show 0 < -aC (bh d) x by grind) s3
         have p2:=this _ _ s2 s4
         grind
        ·have p1 := this _ _ (show 0 < -aC (bh d) x by grind) (show 0 < -aC H x by grind)
         have p2 := this _ _ s2 (show 0 < -aC H y by grind)
         grind
       ·rcases hs with⟨s3,s4⟩|⟨s3,s4⟩
        ·have p1:=this _ _ s1 s3
         have p2 := this _ _ (show 0 < -aC (bh d) y by grind) s4
         grind
        ·have p1 := this _ _ s1 (show 0 < -aC H x by grind)
         have p2 := this _ _ (show 0 < -aC (bh d) y by grind) (show 0 < -aC H y by grind)
         grind
       ·exact n2 (.inl ⟨s1,s2⟩)
      obtain⟨o3,o4⟩:=Ll (self.mul (up q4 aa)) q3 hs hx0 hy0
      exact hno x R.ab.1 o1 o3
    ·have fy:aC (bh c) y=0:=Decidable.byContradiction fun h0=>by rw[if_neg h0]at hn;omega
     have hy0:aC H y=0:=by rw[hH]at fy;exact(Rat.mul_eq_zero.1 fy).resolve_left gy
     exact hno y R.ab.2 o2 (by rw[hy0];exact Ab.zero zz)
  ·rw[xz h1 h2,xz h1 h2]
   have:aC (bh d) m=0->aC (bh c) m=0:=fun h=>by rw[hH,h,Rat.zero_mul]
   by_cases h0:aC (bh d) m=0
   ·rw[if_pos h0,if_pos (this h0)];omega
   ·rw[if_neg h0];split<;>omega
 ·rw[show bt d x y=0 from if_pos (by grind),show bt c x y=0 from if_pos (by grind)];exact Int.le_refl _
theorem iZ.mul {a b c d:PP} (h:iZ a b) (h':iZ a c) (e:∀t,aC d t=aC b t*aC c t):iZ a d:=by
 obtain⟨u,v,h⟩:=h
 obtain⟨w,z,h'⟩:=h'
 refine⟨g8 u (bZ v (bZ b w)),bZ v z,fun t=>?_⟩
 have h1:=h t
 have h2:=h' t
 rw[ja,cr,cr,cr,e]
 have:aC u t*aC a t+aC v t*aC b t*(aC w t*aC a t+aC z t*aC c t)=1:=by rw[h2];grind
 grind
theorem abp {c p:PP} (tc:Trim c) (c0:0<c.1) (tp:Trim p) (p0:0<p.1) (sp:iZ p (aW p)) (hd:Dv p c):Dv p (bh c):=by
 obtain⟨G,e,hG,tG,h1,h2,h3,_⟩:=rH tc c0
 have tF:Trim (bh c):=kn
 generalize bh c=F at*
 obtain⟨x,F1,e1,e2,k1⟩:=DT tp tF p0
 have dp:Dv (bR p F) F:=(rR tp tF).2
 have d0:=mM (b:=F) p0
 generalize bR p F=d at*
 obtain⟨u,v,huv⟩:=sp
 have hp':∀t,aC (aW p) t=dz d t*aC x t+aC d t*dz x t:=fun t=>by rw[gM];exact kM e1 t
 -- x has nothing in common with d, with F, with its own derivative
 have k2:iZ x d:=⟨g8 (bZ u d) (bZ v (aW d)),bZ v (aW x),fun t=>by
  have:=huv t
  rw[hp',e1]at this
  rw[ja,cr,cr,cr,gM,gM];grind⟩
 have k3:iZ x (aW x):=⟨g8 (bZ u d) (bZ v (aW d)),bZ v d,fun t=>by
  have:=huv t
  rw[hp',e1]at this
  rw[ja,cr,cr,cr,gM,gM];grind⟩
 have k4:iZ x F:=k2.mul k1 e2
 have xc:Dv x c:=by
  obtain⟨w,hw⟩:=hd
  exact⟨bZ d w,fun t=>by rw[hw,e1,cr];grind⟩
 have x0:0<(ct x).1:=by
  rcases Nat.eq_zero_or_pos (ct x).1 with h|h
  ·have:=pK tp fun t=>by rw[e1,<-eu (a:=x),jx h,Rat.mul_zero]
   omega
  ·exact h
 rcases Nat.lt_or_ge 1 (ct x).1 with hx1|hx1
 ·refine(Ef hG tG (fO (a:=x)) hx1 fun k=>?_).elim
  induction k with
  |zero=>exact⟨G,fun t=>by rw[Rat.pow_zero,Rat.one_mul]⟩
  |succ k ih=>
   obtain⟨m,hm⟩:=ih
   have hm:∀t,aC G t=aC x t^k*aC m t:=fun t=>by rw[hm,eu]
   have key:Dv x m:=by
    rcases Nat.eq_zero_or_pos k with hk|hk
    ·subst hk
     obtain⟨w,hw⟩:=xc
     refine k4.dv (w:=w) fun t=>?_
     have:=hm t
     rw[Rat.pow_zero,Rat.one_mul]at this
     rw[<-hw,h1,this,Rat.mul_comm]
    ·have a1:∀t,dz c t=dz G t*aC F t+aC G t*dz F t:=fun t=>kM h1 t
     have a2:∀t,dz G t=dz (gU x k) t*aC m t+aC (gU x k) t*dz m t:=fun t=>kM (fun t=>by rw[hm,ou]) t
     have kk:=Du x0 (fO (a:=x)) k (a:=gi ((k:Int):Rat) (bZ (aW x) (bZ m F))) (b:=bZ x (g8 (bZ e m) (gi (-1) (g8 (bZ (aW m) F) (bZ m (aW F)))))) fun t=>by
      rw[eu,fV,cr,cr,cr,ja,cr,fV,ja,cr,cr,gM,gM,gM]
      have a1:=a1 t
      have a2:=a2 t
      have a4:=C3 (d:=x) (t:=t) k
      have a5:=h2 t
      have a6:=hm t
      rw[ou]at a2
      generalize dz (gU x k) t=P at*
      generalize aC x t^k=D at*
      generalize ((k:Int):Rat)=K at*
      generalize aC x t=dd at*
      generalize dz x t=d' at*
      generalize aC F t=ff at*
      generalize dz F t=f' at*
      generalize aC m t=mm at*
      generalize dz m t=m' at*
      generalize aC e t=ee at*
      rw[a5,a6,a2]at a1
      calc D*(K*(d'*(mm*ff)))=mm*ff*(K*(d'*D)):=by grind
       _=mm*ff*(dd*P):=by rw[a4]
       _=dd*(P*mm*ff):=by grind
       _=dd*(D*mm*ee-D*m'*ff-D*mm*f'):=by rw[a1];grind
       _=_:=by grind
     have hk0:((k:Int):Rat)≠0:=pO aa
     have hi:((k:Int):Rat)⁻¹*((k:Int):Rat)=1:=Rat.inv_mul_cancel _ hk0
     obtain⟨w1,hw1⟩:=k3.dv (c:=bZ m F) (w:=gi ((k:Int):Rat)⁻¹ (g8 (bZ e m) (gi (-1) (g8 (bZ (aW m) F) (bZ m (aW F)))))) fun t=>by
      have:=kk t
      rw[fV,cr,cr,cr]at this
      rw[fV,cr]
      generalize ((k:Int):Rat)=K at*
      generalize K⁻¹=L at*
      generalize aC (g8 (bZ e m) (gi (-1) (g8 (bZ (aW m) F) (bZ m (aW F))))) t=y at*
      have h5:aC (aW x) t*(aC m t*aC F t)=L*(K*(aC (aW x) t*(aC m t*aC F t))):=by rw[<-Rat.mul_assoc L K,hi,Rat.one_mul]
      rw[h5,this];grind
     exact k4.dv (w:=w1) fun t=>by rw[<-hw1,cr,Rat.mul_comm]
   obtain⟨w,hw⟩:=key
   exact⟨w,fun t=>by rw[hm,hw,eu,Rat.pow_succ];grind⟩
 ·-- x is a number
  obtain⟨w,hw⟩:=dp
  have ex:∀t,aC x t=x.2 0:=fun t=>by
   rw[<-eu]
   show ev (ct x).1 x.2 t=_
   rw[show(ct x).1=1 by omega]
   show 0+x.2 0*t^0=_
   rw[Rat.pow_zero];grind
  have hx:x.2 0≠0:=fun h0=>by
   have:=pK tp fun t=>by rw[e1,ex,h0,Rat.mul_zero]
   omega
  have hi:(x.2 0)⁻¹*x.2 0=1:=Rat.inv_mul_cancel _ hx
  refine⟨gi (x.2 0)⁻¹ w,fun t=>?_⟩
  rw[hw,e1,ex,fV]
  generalize (x.2 0)⁻¹=L at*
  grind
theorem Us {c g:PP} (tc:Trim c) (c0:0<c.1) (tg:Trim g) (g0:0<g.1) (h:Dv g c):Dv (bh g) (bh c):=by
 obtain⟨G,e,hG,tG,h1,_⟩:=rH tg g0
 exact abp tc c0 kn (z8 tg g0) (DQ tg g0) (Dv.trans ⟨G,fun t=>by rw[h1,Rat.mul_comm]⟩ h)
theorem Is (a:Nat->Rat):∀n,vr a n<=n
 |0=>aT
 |n+1=>by
  have:=Is a n
  unfold vr at*
  rw[lz]
  dsimp only
  split<;>omega
theorem Jy {c:PP} {s q:Nat} (h:lC c s q) (x y:Rat):bt c x y<=8:=by
 by_cases hxy:x<y
 ·rw[qD hxy]
  have h1:mV c x<=cV c+1:=Is _ _
  have h2:=h.k7
  split<;>omega
 ·rw[show bt c x y=0 from if_pos (by grind)];decide
end Go.Am
namespace Go.Am.B
open Go Go.Am.N AV af aq IntKind Proofs.Tryz
theorem wG {c:PP} (h:dD c):AD c/\wF c:=by
 have hW:=cY
 have hl:=h.len
 have h0:=h.p0
 obtain⟨f1,f2⟩:=h.free
 have g1:=h.gcd
 have b1:Bd c 806:=h.bd.more aa
 have b2:Bd (aW c) 806:=h.bd.cO aa
 have hd:mw c (bR c (aW c)):=yB (M:=13) h.bd g1.bd g1.p0 g1.tr aa aa
 have hf:cN (bh c).1 (bh c).2:=kT f1.bd aa
 have hder:cN (c.1-1) (cO c.2):=kT (yy h.bd aa) aa
 have h13:2*((13+1)*(2*(806+1)*3^(13-1)))+2<=ag:=by rw[hW];decide
 have hdl:(aW c).1<=13:=Nat.le_trans AO aa
 refine⟨⟨aa,h.tr,hder,fun _=>⟨BR h.tr dI hl hdl aa b1 b2 h13,hd,hf⟩⟩,⟨aa,aa,h.tr,hder,fun _=>⟨⟨kT (b1.cM h.tr) aa,kT (b2.cM dI) aa,BR (ov h.tr) (ov dI) hl hdl aa (b1.cM h.tr) (b2.cM dI) h13⟩,hd,hf⟩⟩⟩
theorem NF {c:PP} (h:dD c):wT (dQ c):=fun j hj=>by
 have hW:=cY
 obtain⟨B,b1,b2,b3,b4,b5⟩:=h.sm j (by have:cV c=eV (dQ c):=rfl;omega)
 have ht:=ot (s:=dQ c) kn dI j
 have hn:=(mY (s:=dQ c) kn dI).2.2 j hj
 refine⟨yB (M:=7) b2 b3 aa ht.2 aa aa,?_⟩
 exact kT ((Az (M:=7) b2 b3 aa ht.2 aa).1.neg) aa
theorem A6 {c:PP} (h:dD c):pY c/\og c:=by
 have hW:=cY
 obtain⟨f1,f2⟩:=h.free
 have hder:cN ((bh c).1-1) (cO (bh c).2):=kT (yy f1.bd aa) aa
 exact⟨⟨(wG h).1,hder,NF h⟩,⟨(wG h).2,hder,NF h⟩⟩
theorem Ap {c:PP} (h:dD c):b7 c<=8:=by
 have:cV c<=7:=h.pz.k7
 show cV c+1<=8
 omega
theorem aap {c:PP} (h:dD c) {i:Nat} (hi:i<b7 c):Bd (bS c i) 1176605/\(bS c i).1<=7:=h.pz.bd i (by have:b7 c=cV c+1:=rfl;omega)
theorem ahn {c:PP} (h:dD c) {τ:Nat} {T:Int} {t:Rat} (ht:cj T τ t) (hT:T.natAbs<=2^τ) (hT0:T≠0) (hs:τ<=2^31):cL (b7 c) (bS c) t:=fun i hi=>by
 have hW:=cY
 obtain⟨b1,b2⟩:=aap h hi
 exact⟨aa,Jt b1 ht hT hT0 b2 aa⟩
theorem JK {c:PP} (h:dD c):C7 c:=⟨(wG h).1.2.2.1,((wG h).1.2.2.2 (by have:=h.p0;omega)).1⟩
theorem MP {n:Nat} {f:Nat->AV} {a:Int}:∀i,i<=3->tU i (fc n f a i).1
 |0,_=>tU.one
 |i+1,hi=>by
  have h1:=xA (n:=n) (f:=f) (a:=a) i aa
  have h2:=xA (n:=n) (f:=f) (a:=a) (i+1) hi
  have h3:=h2.hi
  exact(MP i aa).step h1.lo yp G9 (by show(fc n f a (i+1)).1.1<=30;omega)
theorem Yj {n:Nat} {f:Nat->AV} {a:Int} (h0:(aJ (lD n f a)).1≠0):dD (aJ (lD n f a)):=by
 have hN:=DH (n:=n) (f:=f) (a:=a)
 have hp:=Iu (n:=n) (f:=f) (a:=a)
 have e:∀t,aC (gE (lD n f a)) t=aC (aJ (lD n f a)) t:=fun t=>vI.symm
 have hex:∃t,iY (lD n f a) t≠0:=Classical.byContradiction fun hn=>h0 (pK (show Trim (aJ (lD n f a))from mu) fun t=>by
  rw[<-e,lN hp.lo]
  exact Classical.byContradiction fun h=>hn ⟨t,h⟩)
 exact((MP (n:=n) (f:=f) (a:=a) (pI n f a) hN hex).of_eq e).gd aa (.inl hN) mu (Nat.pos_of_ne_zero h0) hp.gd.len (hp.gd.bd.more aa)
theorem tO {c:PP} {x y:Rat}:eW (b7 c) (bS c) x y=bt c x y:=by
 have e:∀t i,cT (bS c) t i=bN (aC (dh c i) t):=fun t i=>by
  show bN (cE (dh c i) t)=_
  rw[pD];rfl
 have e2:cE (bS c 0) y=aC (bh c) y:=pD
 unfold eW bt mV vr
 rw[e2,show cT (bS c) x=fun i=>bN (aC (dh c i) x)from funext (e x),show cT (bS c) y=fun i=>bN (aC (dh c i) y)from funext (e y)]
 rfl
def cz:Nat:=68243226
theorem pC:cz=68243226:=rfl
theorem Rk:m9 1176605 9412848 0=68243223:=by decide
def Dy (z:Rat):Prop:=∃j,j<=cz/\cj ((2^j:Nat):Int) j z
theorem Dy.ch {c:PP} (h:dD c) {z:Rat} (hz:Dy z):cL (b7 c) (bS c) z:=by
 obtain⟨j,h1,h2⟩:=hz
 have hI:=pC
 exact ahn h h2 (by rw[Int.natAbs_natCast];exact Nat.le_refl _) (by have:=Nat.pow_pos (n:=j) (show 0<2 by decide);omega) aa
theorem Iw {j:Nat} {x y:Rat} (hx:cj ((2^j:Nat):Int) j x) (hy:cj ((2^j:Nat):Int) j y):cj ((2^(j+1):Nat):Int) (j+1) (aY x y):=by
 obtain⟨z,h1,h2⟩:=hx.add hy
 refine⟨z,?_,h2⟩
 rw[h1,Nat.pow_succ,Int.natCast_mul,Rat.intCast_mul]
 unfold aY
 generalize (((2^j:Nat):Int):Rat)=D
 have:(((2:Nat):Int):Rat)=2:=rfl
 rw[this];grind
theorem Ir {j:Nat} {x:Rat} (hx:cj ((2^j:Nat):Int) j x):cj ((2^(j+1):Nat):Int) (j+1) x:=by
 have:=hx.up (E:=2) (e:=1) (by decide)
 rw[Nat.pow_succ,Int.natCast_mul]
 exact this
theorem Hl {x y:Rat} (h:x<y):x<aY x y/\aY x y<y/\aY x y-x=(y-x)*(1/2)/\y-aY x y=(y-x)*(1/2):=by
 unfold aY
 exact⟨by grind,by grind,by grind,by grind⟩
theorem uq {j:Nat} {x:Rat} (hj:j<=cz) (hx:cj ((2^j:Nat):Int) j x):Dy x:=⟨j,hj,hx⟩
structure ju (j:Nat) (x y:Rat):Prop where
 nx:cj ((2^j:Nat):Int) j x
 ny:cj ((2^j:Nat):Int) j y
 w:(y-x)*T2 j=1
 lo:0<=x
 hi:y<=1
theorem ju.lt {j:Nat} {x y:Rat} (h:ju j x y):x<y:=by
 have h1:=j9 j
 have h2:=h.w
 refine Decidable.byContradiction fun hn=>?_
 have:=Rat.mul_nonneg (a:=x-y) (b:=T2 j) (by grind) (by grind)
 grind
theorem ju.Hz {j:Nat} {x y:Rat} (h:ju j x y):ju (j+1) x (aY x y)/\ju (j+1) (aY x y) y:=by
 obtain⟨m1,m2,m3,m4⟩:=Hl h.lt
 have hw:=h.w
 have h1:=h.lo
 have h2:=h.hi
 exact⟨⟨Ir h.nx,Iw h.nx h.ny,by rw[m3,oO];grind,h1,by grind⟩,⟨Iw h.nx h.ny,Ir h.ny,by rw[m4,oO];grind,by grind,h2⟩⟩
theorem ju.zero:ju 0 0 1 where
 nx:=.zero
 ny:=⟨1,by decide+kernel,aT⟩
 w:=by unfold T2;rw[Rat.pow_zero];decide+kernel
 lo:=by decide
 hi:=by decide
theorem ju.LU {c:PP} (hc:dD c) {j:Nat} {x y:Rat} (h:ju j x y) (hj:cz-1<=j):bt c x y=0\/bt c x y=1:=by
 have hD:=pC
 have hE:=Rk
 have hw:=h.w
 have hlt:=h.lt
 have t0:T2 0=1:=by unfold T2;rw[Rat.pow_zero]
 refine hc.pz.short (r:=0) ⟨by rw[t0];have:=h.lo;grind,by rw[t0];exact h.hi,hlt⟩ ?_
 have hle:T2 (m9 1176605 9412848 0+1)<=T2 j:=jR (by rw[hE];omega)
 rw[oO]at hle
 have:=Rat.mul_le_mul_of_nonneg_left (c:=y-x) hle (by grind)
 grind
theorem yQ {c:PP} (hc:dD c):∀e j x y,j+e=cz->1<=e->ju j x y->jO (b7 c) (bS c) e x y
 |0,_,_,_,_,h,_=>absurd h (by decide)
 |e+1,j,x,y,hj,_,h=>by
  refine⟨(uq aa h.nx).ch hc,(uq aa h.ny).ch hc,fun h0 h1=>?_⟩
  rw[tO]at h0 h1
  rcases Nat.eq_zero_or_pos e with he|he
  ·rcases h.LU hc aa with h2|h2
   ·exact absurd h2 h0
   ·exact absurd h2 h1
  ·obtain⟨a,b⟩:=h.Hz
   have hD:=pC
   have hW:=cY
   exact⟨(a.ny.sz (by have:=Nat.pow_pos (n:=j+1) (show 0<2 by decide);omega) (e:=j+1) (by rw[Int.natAbs_natCast];exact Nat.le_refl _)).more aa,yQ hc e (j+1) _ _ aa he a,yQ hc e (j+1) _ _ aa he b⟩
theorem jO.len {c:PP} (hc:dD c):∀e {x y:Rat},x<y->jO (b7 c) (bS c) e x y->((bC (b7 c) (bS c) e x y).length:Int)=bt c x y
 |0,_,_,_,h=>h.elim
 |e+1,x,y,hxy,h=>by
  obtain⟨_,_,h3⟩:=h
  unfold bC
  rw[tO]at h3 ⊢
  by_cases h0:bt c x y=0
  ·rw[if_pos h0,h0];rfl
  ·rw[if_neg h0]
   by_cases h1:bt c x y=1
   ·rw[if_pos h1,h1];rfl
   ·obtain⟨_,a,b⟩:=h3 h0 h1
    obtain⟨m1,m2,_⟩:=Hl hxy
    have i1:=jO.len hc e m1 a
    have i2:=jO.len hc e m2 b
    have e2:cE (bS c 0) (aY x y)=aC (bh c) (aY x y):=pD
    rw[if_neg h1,e2,xz m1 m2,List.length_append]
    by_cases h2:aC (bh c) (aY x y)=0
    ·rw[if_pos h2,if_pos h2,List.length_cons];omega
    ·rw[if_neg h2,if_neg h2];omega
theorem Bl {c:PP}:∀e j x y,j+e=cz->ju j x y->∀s,s∈bC (b7 c) (bS c) e x y->Dy s.1/\Dy s.2
 |0,_,_,_,_,_=>fun s hs=>by cases hs
 |e+1,j,x,y,hj,h=>fun s hs=>by
  unfold bC at hs
  have hlt:=h.lt
  have kx:=uq (show j<=cz by omega) h.nx
  have ky:=uq (show j<=cz by omega) h.ny
  obtain⟨a,b⟩:=h.Hz
  split at hs
  ·cases hs
  ·split at hs
   ·rw[List.mem_singleton]at hs
    subst hs
    exact⟨by show Dy (jc x y);unfold jc;split<;>assumption,by show Dy (jf x y);unfold jf;split<;>assumption⟩
   ·rcases List.mem_append.1 hs with hs|hs
    ·exact Bl e (j+1) _ _ aa a s hs
    ·split at hs
     ·rcases List.mem_cons.1 hs with hs|hs
      ·subst hs
       exact⟨uq (show j+1<=cz by omega) a.ny,uq (show j+1<=cz by omega) a.ny⟩
      ·exact Bl e (j+1) _ _ aa b s hs
     ·exact Bl e (j+1) _ _ aa b s hs
theorem GK {c:PP} (h:dD c):∀j,dD (eH c j)
 |0=>h.gcd
 |j+1=>(GK h j).gcd
theorem CN:Dy 0:=⟨0,Nat.zero_le _,ju.zero.nx⟩
theorem Bf:Dy 1:=⟨0,Nat.zero_le _,ju.zero.ny⟩
theorem Ic {c:PP} {s:Rat×Rat} (hs:s∈l5 cz (b7 c) (bS c)):Dy s.1/\Dy s.2:=by
 unfold l5 at hs
 rcases List.mem_append.1 hs with hs|hs
 ·rcases List.mem_append.1 hs with hs|hs
  ·split at hs
   ·rw[List.mem_singleton]at hs;subst hs;exact⟨CN,CN⟩
   ·cases hs
  ·exact Bl cz 0 _ _ (Nat.zero_add _) ju.zero s hs
 ·split at hs
  ·rw[List.mem_singleton]at hs;subst hs;exact⟨Bf,Bf⟩
  ·cases hs
theorem BG {l:List (Rat×Rat)} {i:Nat} (h:i<l.length):bO l i∈l:=by
 unfold bO
 rw[List.getD_eq_getElem?_getD,List.getElem?_eq_getElem h]
 exact List.getElem_mem h
theorem HL {c:PP} (hc:dD c):(l5 cz (b7 c) (bS c)).length<=10:=by
 have h1:=jO.len hc cz (show(0:Rat)<1 by decide) (yQ hc cz 0 0 1 (Nat.zero_add _) (by have:=pC;omega) ju.zero)
 have h2:=Jy hc.pz 0 1
 unfold l5
 rw[List.length_append,List.length_append]
 have a:(if cE (bS c 0) 0=0 then [((0:Rat),(0:Rat))]else []).length<=1:=by split<;>simp
 have b:(if cE (bS c 0) 1=0 then [((1:Rat),(1:Rat))]else []).length<=1:=by split<;>simp
 omega
theorem Wt {p:PP} (hof:mJ p) (hg:(aJ p).1≠0->dD (aJ p)):wA cz p:=by
 refine⟨hof,fun h0=>?_⟩
 have hc:=hg h0
 have hs:=Ap hc
 have e:fk cz p=l5 cz (b7 (aJ p)) (bS (aJ p)):=if_neg h0
 rw[e]
 have hl:=HL hc
 refine⟨(A6 hc).1,aa,CN.ch hc,Bf.ch hc,yQ hc cz 0 0 1 (Nat.zero_add _) (by have:=pC;omega) ju.zero,aa,JK hc,fun j _=>?_⟩
 have hj:=GK hc j
 have hs2:=Ap hj
 refine⟨JK hj,(A6 hj).1,aa,fun i hi=>?_⟩
 obtain⟨a,b⟩:=Ic (BG hi)
 exact⟨a.ch hj,b.ch hj⟩
def PB:Spec:=en (kC (eZ ag) (kC (eZ ag) kN)) (fun a=>.rat (aY a.1 a.2.1) ek) fun a=>[Sz (aY a.1 a.2.1) ag]
def Pe:Spec:=en (kC (kL ag) (kC (eZ ek) kN)) (fun a=>.rat (cE a.1 a.2.1) ag) fun a=>[a.1.1<2^40,g9 a.1 a.2.1,Sz a.2.1 ag]
def DM:Spec:=en (kC (eZ ek) kN) (fun a=>fJ a.1 a.1 ag) fun a=>[Sz a.1 ag]
def aeq:AV->Bool
 |.rat _ n=>Nat.ble (ag+1) n
 |_=>false
def jP (n:Nat) (c:Nat->PP):Nat->Rat->Rat->Prop
 |0,_,_=>False
 |d+1,x,y=>x<y/\cL n c x/\cL n c y/\Sz x ag/\Sz y ag/\((bC n c (d+1) x y).length:Int)=eW n c x y/\(bC n c (d+1) x y).length<2^30/\(eW n c x y≠0->eW n c x y≠1->jP n c d x (aY x y)/\jP n c d (aY x y) y)
def GV (b1 b2:Bool) (d:Nat):Spec:=rJ fun K l=>match l with
 |[v,a,b]=>match mW.read v,(eZ ek).read a,(eZ ek).read b with
  |some ((n,c),q1),some (x,q2),some (y,q3)=>match bif aeq b then b1 else b2 with
   |true=>some ⟨.own K 6 0 (bC n c d x y).length,[(K,mZ (bC n c d x y))],[az q1,az q2,az q3,0<n,n<2^30,jP n c d x y,bC n c d x y≠[]]⟩
   |false=>some (aM .nil [az q1,az q2,az q3,0<n,n<2^30,jP n c d x y,bC n c d x y=[]])
  |_,_,_=>none
 |_=>none
def uD (b1 b2:Bool) (d:Nat):bz:=nG::(75,GV b1 b2 d)::(62,Eu)::(136,PB)::(76,Pe)::(77,DM)::iK
noncomputable abbrev zu:Code:=aI f75
abbrev wS (n:Nat) (c:Nat->PP) (x y:Rat):aK:=⟨aU 0 [fK n c,.rat x ag,.rat y ag],[],0⟩
theorem Jr:br 75 f75:=bu func75
theorem aem {n d:Nat} {c:Nat->PP} {x y:Rat}:cB T (uD true true d) [100015] 60 f75 zu (wS n c x y)=
  some (aj [(0:Nat)<1,(0:Nat)<1,∀(i:Nat),i<n->bg (aG (c i)) (aG (bV (aG (c i)))),ag<=ag,ag<=ag,(0:Nat)<n,n<2^30,x<y,cL n (fun i=>bV (aG (c i))) x,cL n (fun i=>bV (aG (c i))) y] (aj [(eW n (fun i=>bV (aG (c i))) x y==0)=true] (leaf ret [nil]))):=ah
theorem ab4 {n d:Nat} {c:Nat->PP} {x y:Rat}:aH T (uD true true d) [200015,100017] 60 [6] [zu] (wS n c x y)=
  let c3:AV:=rat 0 1;let c2:Int:=eW n (fun i=>bV (aG (c i))) x y;let c1:Prop:=0<1;some (aj [c1,c1,∀(i:Nat),i<n->bg (aG (c i)) (aG (bV (aG (c i)))),ag<=ag,ag<=ag,(0:Nat)<n,n<2^30,x<y,cL n (fun i=>bV (aG (c i))) x,cL n (fun i=>bV (aG (c i))) y] (aj [(c2==0)=false] (aj [(c2==1)=true] (aj [c1,c1,(1:Nat)*6<=2^24] (leaf ret ([own 61440 6 0 1],[(61440,ax.mk true true 6 1 fun i=>nth [agg [rat x ag,rat y ag]] (agg [c3,c3]) i)])))))):=ah
theorem TK {n d:Nat} {c:Nat->PP} {x y:Rat}:aH T (uD true true d) [200015,200017,35] 60 [6] [zu] (wS n c x y)=
  let c19:AV:=rat 0 1;let c18:Prop:=az [ek<=ek];let c17:Prop:=az [ag<=ek];let c15:Prop:=0<n;let c13:Int:=eW n (fun i=>bV (aG (c i))) x y;let c11:Nat:=2^47;let c10:Nat:=112+1;let c9:Rat:=aY x y;let c7:Prop:=n<2^30;let c5:PP:=c (Int.toNat (0:Int));let c4:Prop:=az [∀(i:Nat),i<n->bg (aG (c i)) (aG (bV (aG (c i))))];let c3:Prop:=0<1;let c16:Nat×(Nat->Rat):=(c5.fst,fun i=>aQ (rat (c5.snd i) ag));let c12:Prop:=jP n (fun i=>bV (aG (c i))) d c9 y;let c6:List (Rat×Rat):=bC n (fun i=>bV (aG (c i))) d x c9;let c2:List (Rat×Rat):=bC n (fun i=>bV (aG (c i))) d c9 y;let c14:Nat:=c2.length;let c1:Nat:=c6.length;let c8:Nat:=c1+1;some (aj [c3,c3,∀(i:Nat),i<n->bg (aG (c i)) (aG (bV (aG (c i)))),ag<=ag,ag<=ag,c15,c7,x<y,cL n (fun i=>bV (aG (c i))) x,cL n (fun i=>bV (aG (c i))) y] (aj [(c13==0)=false] (aj [(c13==1)=false] (aj [c3,c3,ag<=ag,ag<=ag,Sz c9 ag,c3] (aj [c3,c3,c4,c17,c18,c15,c7,jP n (fun i=>bV (aG (c i))) d x c9,c6≠[]] (aj [(0:Int)<=0/\Int.toNat (0:Int)<n,c3,cZ (fun i=>rat (c5.snd i) ag) c5.fst ag,ek<=ek,c5.fst<2^40,g9 c16 c9,Sz c9 ag,ag<2^41] (fork (bN (cE c16 c9)==0) (aj [c3,ek<=ek,Sz c9 ag,(1:Nat)*6<=2^24,c8*c10*2<=c11] (aj [c3,c3,c4,c18,c17,c15,c7,c12,c2≠[],(c8+c14)*c10*2<=c11] (leaf ret ([own 163840 6 0 (c8+c14)],[(163840,ax.mk true true 6 (c8+c14) fun i=>if i<c8 then if i<c1 then cu c6 i else nth [agg [rat c9 ag,rat c9 ag]] (agg [c19,c19]) (i-c1+0)else cu c2 (i-c8+0))])))) (aj [c3,c3,c4,c18,c17,c15,c7,c12,c2≠[],(c1+c14)*c10*2<=c11] (leaf ret ([own 139264 6 0 (c1+c14)],[(139264,ax.mk true true 6 (c1+c14) fun i=>if i<c1 then cu c6 i else cu c2 (i-c1+0))])))))))))):=ah
theorem ac8 {n d:Nat} {c:Nat->PP} {x y:Rat}:aH T (uD true false d) [200015,200017,35] 60 [6] [zu] (wS n c x y)=
  let c20:AV:=rat 0 1;let c17:Prop:=az [ek<=ek];let c16:Prop:=az [ag<=ek];let c14:Prop:=0<n;let c13:Int:=eW n (fun i=>bV (aG (c i))) x y;let c11:Nat:=2^47;let c9:Nat:=112+1;let c7:Rat:=aY x y;let c6:Prop:=n<2^30;let c4:PP:=c (Int.toNat (0:Int));let c3:Prop:=az [∀(i:Nat),i<n->bg (aG (c i)) (aG (bV (aG (c i))))];let c2:Prop:=0<1;let c15:Nat×(Nat->Rat):=(c4.fst,fun i=>aQ (rat (c4.snd i) ag));let c12:Prop:=jP n (fun i=>bV (aG (c i))) d c7 y;let c10:Prop:=bC n (fun i=>bV (aG (c i))) d c7 y=[];let c1:List (Rat×Rat):=bC n (fun i=>bV (aG (c i))) d x c7;let c8:Nat:=c1.length;let c19:Nat:=c8+0;let c5:Nat:=c8+1;let c18:Nat:=c5+0;some (aj [c2,c2,∀(i:Nat),i<n->bg (aG (c i)) (aG (bV (aG (c i)))),ag<=ag,ag<=ag,c14,c6,x<y,cL n (fun i=>bV (aG (c i))) x,cL n (fun i=>bV (aG (c i))) y] (aj [(c13==0)=false] (aj [(c13==1)=false] (aj [c2,c2,ag<=ag,ag<=ag,Sz c7 ag,c2] (aj [c2,c2,c3,c16,c17,c14,c6,jP n (fun i=>bV (aG (c i))) d x c7,c1≠[]] (aj [(0:Int)<=0/\Int.toNat (0:Int)<n,c2,cZ (fun i=>rat (c4.snd i) ag) c4.fst ag,ek<=ek,c4.fst<2^40,g9 c15 c7,Sz c7 ag,ag<2^41] (fork (bN (cE c15 c7)==0) (aj [c2,ek<=ek,Sz c7 ag,(1:Nat)*6<=2^24,c5*c9*2<=c11] (aj [c2,c2,c3,c17,c16,c14,c6,c12,c10,c18*c9*2<=c11] (leaf ret ([own 163840 6 0 c18],[(163840,ax.mk true true 6 c18 fun i=>if i<c5 then if i<c8 then cu c1 i else nth [agg [rat c7 ag,rat c7 ag]] (agg [c20,c20]) (i-c8+0)else nil)])))) (aj [c2,c2,c3,c17,c16,c14,c6,c12,c10,c19*c9*2<=c11] (leaf ret ([own 139264 6 0 c19],[(139264,ax.mk true true 6 c19 fun i=>if i<c8 then cu c1 i else nil)])))))))))):=ah
theorem adC {n d:Nat} {c:Nat->PP} {x y:Rat}:aH T (uD false true d) [200015,200017,35] 60 [6] [zu] (wS n c x y)=
  let c17:AV:=rat 0 1;let c15:Prop:=az [ek<=ek];let c14:Prop:=az [ag<=ek];let c12:Prop:=0<n;let c11:Int:=eW n (fun i=>bV (aG (c i))) x y;let c8:Nat:=2^47;let c7:Nat:=112+1;let c6:Rat:=aY x y;let c5:Prop:=n<2^30;let c4:PP:=c (Int.toNat (0:Int));let c3:Prop:=az [∀(i:Nat),i<n->bg (aG (c i)) (aG (bV (aG (c i))))];let c2:Prop:=0<1;let c13:Nat×(Nat->Rat):=(c4.fst,fun i=>aQ (rat (c4.snd i) ag));let c10:Prop:=jP n (fun i=>bV (aG (c i))) d c6 y;let c1:List (Rat×Rat):=bC n (fun i=>bV (aG (c i))) d c6 y;let c9:Nat:=c1.length;let c16:Nat:=1+c9;some (aj [c2,c2,∀(i:Nat),i<n->bg (aG (c i)) (aG (bV (aG (c i)))),ag<=ag,ag<=ag,c12,c5,x<y,cL n (fun i=>bV (aG (c i))) x,cL n (fun i=>bV (aG (c i))) y] (aj [(c11==0)=false] (aj [(c11==1)=false] (aj [c2,c2,ag<=ag,ag<=ag,Sz c6 ag,c2] (aj [c2,c2,c3,c14,c15,c12,c5,jP n (fun i=>bV (aG (c i))) d x c6,bC n (fun i=>bV (aG (c i))) d x c6=[]] (aj [(0:Int)<=0/\Int.toNat (0:Int)<n,c2,cZ (fun i=>rat (c4.snd i) ag) c4.fst ag,ek<=ek,c4.fst<2^40,g9 c13 c6,Sz c6 ag,ag<2^41] (fork (bN (cE c13 c6)==0) (aj [c2,ek<=ek,Sz c6 ag,(1:Nat)*6<=2^24,c2/\1*c7*2<=c8] (aj [c2,c2,c3,c15,c14,c12,c5,c10,c1≠[],c16*c7*2<=c8] (leaf ret ([own 163840 6 0 c16],[(163840,ax.mk true true 6 c16 fun i=>if i<1 then nth [agg [rat c6 ag,rat c6 ag]] (agg [c17,c17]) (i+0)else cu c1 (i-1+0))])))) (aj [c2,c2,c3,c15,c14,c12,c5,c10,c1≠[],(0:Nat)<c9/\c9*c7*2<=c8] (leaf ret ([own 139264 6 0 c9],[(139264,ax.mk true true 6 c9 fun i=>agg [rat (bO c1 (i+0)).fst ag,rat (bO c1 (i+0)).snd ag])])))))))))):=ah
theorem Si:br 136 f136:=bu func136
theorem af5 {x y:Rat}:cB T z6 [] 60 f136 (aI f136) ⟨aU 0 [.rat x ag,.rat y ag],[],0⟩=
  some (aj [0<1,0<1,ag<2^41,ag<2^41,-(2:Int)^63<=(1:Int),(1:Int)<2^63,-(2:Int)^63<=(2:Int),(2:Int)<2^63,ag+ag+1<2^41,(64:Nat)<2^41,0<1] (aj [0<1] (leaf ret [rat ((x+y)*((↑(1:Int):Rat)/(↑(2:Int):Rat))) (ag+ag+1+64)]))):=ah
theorem ab7:br 77 f77:=bu func77
theorem Ze {x:Rat}:cB T iK [] 60 f77 (aI f77) ⟨aU 0 [.rat x ag],[],0⟩=
  let c2:AV:=rat x ag;let c1:Prop:=0<1;some (aj [c1,c1,c1] (aj [c1] (leaf ret [agg [c2,c2]]))):=ah
theorem aaQ (x y:Rat):(x+y)*(((1:Int):Rat)/((2:Int):Rat))=aY x y:=rfl
theorem X2:bf P PB 136:=dO fun⟨x,y,_⟩ K hn=>by
 have hW:=cY
 have hX:=uX
 refine cF hT KM hm Si rfl aZ rfl 60 af5 (fun _=>?_) K []
 simp only[af.all,az]
 exact⟨⟨aa,aa,aa,aa,aa,aa,aa,aa,aa,aa,aa⟩,aa,dY (aaQ x y) (Sz.more (show Sz (aY x y) ag from hn) aa)⟩
theorem vU {x:Rat} (h:Sz x ag):bg (.rat x ek) (.rat x ag):=dY rfl h
theorem Zx:bf P Pe 76:=dO fun⟨a,t,_⟩ K hn=>gT (args:=[aG a,.rat t ek]) (JN hn.1 hn.2.1 K) rfl ⟨.refl _,vU hn.2.2,trivial⟩ []
theorem Js:bf P DM 77:=dO fun⟨x,_⟩ K hn=>by
 have h1:aS P 77 K [.rat x ag] [] (aM (fJ x x ag) []):=by
  refine cF hT iP hm ab7 rfl aZ rfl 60 Ze (fun _=>?_) K []
  simp only[af.all,az]
  exact⟨⟨aa,aa,aa⟩,aa,.refl _⟩
 exact gT (args:=[.rat x ek]) h1 rfl ⟨vU hn,trivial⟩ []
def uH (d:Nat):Prop:=∀(n:Nat) (c:Nat->PP) (x y:Rat) (K:Nat),0<n->n<2^30->jP n c d x y->
 (bC n c d x y≠[]->aS P 75 K [fK n c,.rat x ag,.rat y ag] [] ⟨.own K 6 0 (bC n c d x y).length,[(K,mZ (bC n c d x y))],[]⟩)/\
 (bC n c d x y=[]->aS P 75 K [fK n c,.rat x ag,.rat y ag] [] (aM .nil []))
theorem jP.sz {n:Nat} {c:Nat->PP}:∀{d:Nat} {x y:Rat},jP n c d x y->Sz x ag/\Sz y ag
 |0,_,_,h=>h.elim
 |_+1,_,_,h=>⟨h.2.2.2.1,h.2.2.2.2.1⟩
theorem NP {d:Nat} (ih:uH d) (b1 b2:Bool):bf P (GV b1 b2 d) 75:=by
 refine wv fun K args r hk hs=>?_
 split at hs
 ·rename_i v a b
  split at hs
  ·rename_i n c q1 x q2 y q3 e1 e2 e3
   split at hs
   ·simp only[ay]at hs
    subst hs
    intro need
    obtain⟨n1,n2,n3,n4,n5,n6,n7⟩:=need
    obtain⟨z1,z2⟩:=n6.sz
    exact gT ((ih n c x y K n4 n5 n6).1 n7) hk ⟨mW.ok e1 n1,((eZ ek).ok e2 n2).trans (vU z1),((eZ ek).ok e3 n3).trans (vU z2),trivial⟩ [] trivial
   ·simp only[ay]at hs
    subst hs
    intro need
    obtain⟨n1,n2,n3,n4,n5,n6,n7⟩:=need
    obtain⟨z1,z2⟩:=n6.sz
    exact gT ((ih n c x y K n4 n5 n6).2 n7) hk ⟨mW.ok e1 n1,((eZ ek).ok e2 n2).trans (vU z1),((eZ ek).ok e3 n3).trans (vU z2),trivial⟩ [] trivial
  ·simp at hs
 ·simp at hs
theorem zO {d:Nat} (ih:uH d) (b1 b2:Bool):bU P (uD b1 b2 d):=jq (aL (NP ih b1 b2) (aL HT (aL X2 (aL Zx (aL Js iP)))))
theorem ZG:uH 0:=fun _ _ _ _ _ _ _ h=>h.elim
theorem r7 {K k m:Nat} {l:List (Rat×Rat)} {f:Nat->AV} (hl:m=l.length) (h:∀i,i<l.length->gX (aX [(K,k)]) (f i) (cu l i)):gQ (aX [(K,k)]) [.own k 6 0 m] [.own K 6 0 l.length]/\dL (aX [(K,k)]) ⟨true,true,6,m,f⟩ (mZ l):=
 ⟨⟨⟨rfl,ec (by simp[aX,look]) rfl hl⟩,trivial⟩,ia hl.symm fun i hi=>h i aa⟩
theorem ab5 {d:Nat} (ih:uH d):uH (d+1):=fun n c x y K h1 h2 h=>by
 have hW:=cY
 have hX:=uX
 obtain⟨o1,o2,o3,o4,o5,o6,o7,o8⟩:=h
 have hrd:∀i,i<n->bg (aG (c i)) (aG (bV (aG (c i)))):=fun i _=>.refl _
 have mn:jc x y=x:=if_neg (by grind)
 have mx:jf x y=y:=if_pos o1
 refine⟨fun hne=>?_,fun he=>?_⟩
 ·refine(CG hT Jr (ws:=[.own K 6 0 (bC n c (d+1) x y).length]) (fun _=>C6 (us:=[fK n c,.rat x ag,.rat y ag]) (vs:=[fK n c,.rat x ag,.rat y ag]) rfl rfl ⟨.refl _,.refl _,.refl _,trivial⟩) aZ fun _ cx hk=>?_:aS P 75 K _ [] ⟨_,_,[]⟩)
  have e0:eW n c x y≠0:=fun h0=>hne (by unfold bC;rw[if_pos h0])
  by_cases e1:eW n c x y=1
  ·have el:bC n c (d+1) x y=[(x,y)]:=by unfold bC;rw[if_neg e0,if_pos e1,mn,mx]
   rw[el]
   refine au.bL hT (zO ih true true) hm 60 [6] ab4 ah ?_
   simp only[af.all,az,beq_iff_eq,beq_eq_false_iff_ne]
   refine⟨⟨aa,aa,hrd,aa,aa,h1,h2,o1,o2,o3⟩,e0,e1,⟨aa,aa,aa⟩,fun s' hs'=>?_⟩
   have L:=r7 (K:=K) (k:=61440) (l:=[(x,y)]) (f:=fun i=>nth [agg [rat x ag,rat y ag]] (agg [rat 0 1,rat 0 1]) i) rfl fun i hi=>by
    have hi:i<1:=hi
    obtain rfl:i=0:=aa
    exact fh rfl
   exact⟨.inr trivial,[6],_,[.own 61440 6 0 1],_,61440,_,hs',ah,L.1,rfl,L.2⟩
  ·obtain⟨k1,k2⟩:=o8 e0 e1
   have zm:=k1.sz.2
   have cm:cL n c (aY x y):=by
    cases d with
    |zero=>exact k1.elim
    |succ d=>exact k1.2.2.1
   obtain⟨v1,v2⟩:=cm 0 h1
   have el:bC n c (d+1) x y=bC n c d x (aY x y)++(if cE (c 0) (aY x y)=0 then(aY x y,aY x y)::bC n c d (aY x y) y else bC n c d (aY x y) y):=by
    show(if eW n c x y=0 then _ else _)=_
    rw[if_neg e0,if_neg e1]
   have lb:∀{d:Nat} {x y:Rat},jP n c d x y->(bC n c d x y).length<2^30:=fun {d x y} h=>by
    cases d with
    |zero=>exact h.elim
    |succ d=>exact h.2.2.2.2.2.2.1
   have lb1:=lb k1
   have lb2:=lb k2
   have lb1':(bC n (fun i=>bV (aG (c i))) d x (aY x y)).length<2^30:=lb1
   have lb2':(bC n (fun i=>bV (aG (c i))) d (aY x y) y).length<2^30:=lb2
   have hlen:=o6
   rw[el]
   rw[el,List.length_append]at hlen
   have cc:bN (cE (c 0) (aY x y))=0↔cE (c 0) (aY x y)=0:=by
    rcases vH (cE (c 0) (aY x y))with h|h|h<;>unfold bN at h ⊢<;>grind
   by_cases l1:bC n c d x (aY x y)=[]
   ·have l2:bC n c d (aY x y) y≠[]:=fun l2=>by
     rw[l1,l2]at hlen
     split at hlen
     ·exact e1 (by simpa using hlen.symm)
     ·exact e0 (by simpa using hlen.symm)
    have l2p:0<(bC n (fun i=>bV (aG (c i))) d (aY x y) y).length:=List.length_pos_iff.2 l2
    refine au.bL hT (zO ih false true) hm 60 [6] adC ah ?_
    simp only[af.all,az,beq_iff_eq,beq_eq_false_iff_ne]
    refine⟨⟨aa,aa,hrd,aa,aa,h1,h2,o1,o2,o3⟩,e0,e1,⟨aa,aa,aa,aa,zm,aa⟩,⟨aa,aa,hrd,aa,aa,h1,h2,k1,l1⟩,⟨⟨aa,h1⟩,aa,eF (a:=c 0),aa,v1,v2,zm,aa⟩,fun hb=>?_,fun hb=>?_⟩
    ·refine⟨⟨aa,aa,zm,aa,aa,aa⟩,⟨aa,aa,hrd,aa,aa,h1,h2,k2,l2,aa⟩,fun s' hs'=>?_⟩
     rw[l1,if_pos (cc.1 hb)]
     have L:=r7 (K:=K) (k:=163840) (l:=[]++(aY x y,aY x y)::bC n c d (aY x y) y) (f:=fun i=>if i<1 then nth [agg [rat (aY x y) ag,rat (aY x y) ag]] (agg [rat 0 1,rat 0 1]) (i+0)else cu (bC n c d (aY x y) y) (i-1+0)) (m:=1+(bC n c d (aY x y) y).length) (by simp;omega) fun i hi=>by
      cases i with
      |zero=>exact fh rfl
      |succ i=>rw[if_neg aa];exact fh rfl
     exact⟨.inr trivial,[6],_,[.own 163840 6 0 _],_,163840,_,hs',ah,L.1,rfl,L.2⟩
    ·refine⟨⟨aa,aa,hrd,aa,aa,h1,h2,k2,l2,aa,aa⟩,fun s' hs'=>?_⟩
     rw[l1,if_neg fun h0=>hb (cc.2 h0)]
     have L:=r7 (K:=K) (k:=139264) (l:=[]++bC n c d (aY x y) y) (f:=fun i=>agg [rat (bO (bC n c d (aY x y) y) (i+0)).fst ag,rat (bO (bC n c d (aY x y) y) (i+0)).snd ag]) (m:=(bC n c d (aY x y) y).length) rfl fun i hi=>fh rfl
     exact⟨.inr trivial,[6],_,[.own 139264 6 0 _],_,139264,_,hs',ah,L.1,rfl,L.2⟩
   ·by_cases l2:bC n c d (aY x y) y=[]
    ·refine au.bL hT (zO ih true false) hm 60 [6] ac8 ah ?_
     simp only[af.all,az,beq_iff_eq,beq_eq_false_iff_ne]
     refine⟨⟨aa,aa,hrd,aa,aa,h1,h2,o1,o2,o3⟩,e0,e1,⟨aa,aa,aa,aa,zm,aa⟩,⟨aa,aa,hrd,aa,aa,h1,h2,k1,l1⟩,⟨⟨aa,h1⟩,aa,eF (a:=c 0),aa,v1,v2,zm,aa⟩,fun hb=>?_,fun hb=>?_⟩
     ·refine⟨⟨aa,aa,zm,aa,aa⟩,⟨aa,aa,hrd,aa,aa,h1,h2,k2,l2,aa⟩,fun s' hs'=>?_⟩
      rw[l2,if_pos (cc.1 hb)]
      have L:=r7 (K:=K) (k:=163840) (l:=bC n c d x (aY x y)++[(aY x y,aY x y)]) (f:=fun i=>if i<(bC n c d x (aY x y)).length+1 then if i<(bC n c d x (aY x y)).length then cu (bC n c d x (aY x y)) i else nth [agg [rat (aY x y) ag,rat (aY x y) ag]] (agg [rat 0 1,rat 0 1]) (i-(bC n c d x (aY x y)).length+0)else nil) (m:=(bC n c d x (aY x y)).length+1+0) (by simp) fun i hi=>by
       have hi:i<(bC n c d x (aY x y)).length+1:=by simpa using hi
       rw[if_pos hi]
       unfold cu
       rw[sx]
       by_cases h:i<(bC n c d x (aY x y)).length
       ·rw[if_pos h,if_pos h];exact fh rfl
       ·rw[if_neg h,if_neg h,show i-(bC n c d x (aY x y)).length=0 by omega];exact fh rfl
      exact⟨.inr trivial,[6],_,[.own 163840 6 0 _],_,163840,_,hs',ah,L.1,rfl,L.2⟩
     ·refine⟨⟨aa,aa,hrd,aa,aa,h1,h2,k2,l2,aa⟩,fun s' hs'=>?_⟩
      rw[l2,if_neg fun h0=>hb (cc.2 h0)]
      have L:=r7 (K:=K) (k:=139264) (l:=bC n c d x (aY x y)++[]) (f:=fun i=>if i<(bC n c d x (aY x y)).length then cu (bC n c d x (aY x y)) i else nil) (m:=(bC n c d x (aY x y)).length+0) (by simp) fun i hi=>by
       have hi:i<(bC n c d x (aY x y)).length:=by simpa using hi
       rw[if_pos hi,List.append_nil];exact fh rfl
      exact⟨.inr trivial,[6],_,[.own 139264 6 0 _],_,139264,_,hs',ah,L.1,rfl,L.2⟩
    ·refine au.bL hT (zO ih true true) hm 60 [6] TK ah ?_
     simp only[af.all,az,beq_iff_eq,beq_eq_false_iff_ne]
     refine⟨⟨aa,aa,hrd,aa,aa,h1,h2,o1,o2,o3⟩,e0,e1,⟨aa,aa,aa,aa,zm,aa⟩,⟨aa,aa,hrd,aa,aa,h1,h2,k1,l1⟩,⟨⟨aa,h1⟩,aa,eF (a:=c 0),aa,v1,v2,zm,aa⟩,fun hb=>?_,fun hb=>?_⟩
     ·refine⟨⟨aa,aa,zm,aa,aa⟩,⟨aa,aa,hrd,aa,aa,h1,h2,k2,l2,aa⟩,fun s' hs'=>?_⟩
      rw[if_pos (cc.1 hb)]
      have L:=r7 (K:=K) (k:=163840) (l:=bC n c d x (aY x y)++(aY x y,aY x y)::bC n c d (aY x y) y) (f:=fun i=>if i<(bC n c d x (aY x y)).length+1 then if i<(bC n c d x (aY x y)).length then cu (bC n c d x (aY x y)) i else nth [agg [rat (aY x y) ag,rat (aY x y) ag]] (agg [rat 0 1,rat 0 1]) (i-(bC n c d x (aY x y)).length+0)else cu (bC n c d (aY x y) y) (i-((bC n c d x (aY x y)).length+1)+0)) (m:=(bC n c d x (aY x y)).length+1+(bC n c d (aY x y) y).length) (by simp;omega) fun i hi=>by
       unfold cu
       rw[sx]
       by_cases h:i<(bC n c d x (aY x y)).length
       ·rw[if_pos aa,if_pos h,if_pos h];exact fh rfl
       ·rw[if_neg h,if_neg h]
        by_cases h':i<(bC n c d x (aY x y)).length+1
        ·rw[if_pos h',show i-(bC n c d x (aY x y)).length=0 by omega];exact fh rfl
        ·rw[if_neg h',show i-(bC n c d x (aY x y)).length=i-((bC n c d x (aY x y)).length+1)+1 by omega];exact fh rfl
      exact⟨.inr trivial,[6],_,[.own 163840 6 0 _],_,163840,_,hs',ah,L.1,rfl,L.2⟩
     ·refine⟨⟨aa,aa,hrd,aa,aa,h1,h2,k2,l2,aa⟩,fun s' hs'=>?_⟩
      rw[if_neg fun h0=>hb (cc.2 h0)]
      have L:=r7 (K:=K) (k:=139264) (l:=bC n c d x (aY x y)++bC n c d (aY x y) y) (f:=fun i=>if i<(bC n c d x (aY x y)).length then cu (bC n c d x (aY x y)) i else cu (bC n c d (aY x y) y) (i-(bC n c d x (aY x y)).length+0)) (m:=(bC n c d x (aY x y)).length+(bC n c d (aY x y) y).length) (by simp) fun i hi=>by
       unfold cu
       rw[sx]
       by_cases h:i<(bC n c d x (aY x y)).length
       ·rw[if_pos h,if_pos h];exact fh rfl
       ·rw[if_neg h,if_neg h];exact fh rfl
      exact⟨.inr trivial,[6],_,[.own 139264 6 0 _],_,139264,_,hs',ah,L.1,rfl,L.2⟩
 ·have e0:eW n c x y=0:=by rw[he]at o6;exact o6.symm
  refine cF hT (zO ih true true) hm Jr rfl aZ rfl 60 aem (fun _=>?_) K []
  simp only[af.all,az,beq_iff_eq]
  exact⟨⟨aa,aa,hrd,aa,aa,h1,h2,o1,o2,o3⟩,e0,.refl _⟩
theorem Mv:∀d,uH d
 |0=>ZG
 |d+1=>ab5 (Mv d)
end Go.Am.B
