/- What divides a product of short factors is short. -/
import Derived.Test.YtolopdkjjlfgjaaGreatY39
import Derived.Test.YtolopdkjjlfgjaaGreatZ2
import Derived.Test.YtolopdkjjlfgjaaGreatY38
import Derived.Test.YtolopdkjjlfgjaaGreatY37
set_option linter.unusedVariables false
namespace Go.Am
theorem adN {y:Rat} {b c:Int} (h:y*y+(b:Rat)*y+(c:Rat)=0):y.den=1:=by
 have hd:((y.den:Int):Rat)≠0:=nE (D:=(y.den:Int)) (by have:=y.den_pos;omega)
 have e1:y*((y.den:Int):Rat)=(y.num:Rat):=by
  have:=Rat.num_divInt_den y
  rw[Rat.divInt_eq_div]at this
  have h2:=Rat.div_mul_cancel (a:=(y.num:Rat)) hd
  rwa [this]at h2
 have e2:(y.num:Rat)*(y.num:Rat)+(b:Rat)*(y.num:Rat)*((y.den:Int):Rat)+(c:Rat)*((y.den:Int):Rat)*((y.den:Int):Rat)=0:=by
  rw[<-e1]
  generalize ((y.den:Int):Rat)=d at*
  have:y*d*(y*d)+(b:Rat)*(y*d)*d+(c:Rat)*d*d=d*d*(y*y+(b:Rat)*y+(c:Rat)):=by grind
  rw[this,h,Rat.mul_zero]
 have e3:y.num*y.num+b*y.num*(y.den:Int)+c*(y.den:Int)*(y.den:Int)=0:=by
  have:((y.num*y.num+b*y.num*(y.den:Int)+c*(y.den:Int)*(y.den:Int):Int):Rat)=((0:Int):Rat):=by
   rw[Rat.intCast_add,Rat.intCast_add,Rat.intCast_mul,Rat.intCast_mul,Rat.intCast_mul,Rat.intCast_mul,Rat.intCast_mul];exact e2
  exact_mod_cast this
 have e4:(y.den:Int)∣y.num*y.num:=⟨-(b*y.num+c*y.den),by grind⟩
 have e5:y.den∣y.num.natAbs*y.num.natAbs:=by
  have:=Int.natAbs_dvd_natAbs.2 e4
  rwa [Int.natAbs_mul,Int.natAbs_natCast]at this
 have e6:Nat.Coprime y.den y.num.natAbs:=Nat.Coprime.symm y.reduced
 have e7:=Nat.Coprime.dvd_of_dvd_mul_left e6 e5
 exact e6.eq_one_of_dvd e7
theorem SH:(1:Rat)⁻¹=1:=by decide+kernel
theorem Dr {q d:PP} (hb:Bd q 13) (tq:Trim q) (q0:0<q.1) (lq:q.1<=3) (td:Trim d) (d0:0<d.1) (d1:d.2 (d.1-1)=1) (hd:Dv d q):Bd d 27/\d.1<=3:=by
 have hl:=hd.len q0 tq td
 refine⟨?_,aa⟩
 have one:∀s,bY 1 s 1:=fun s=>⟨1,(Rat.one_mul _).symm,Nat.one_le_two_pow⟩
 rcases(show d.1=1\/d.1=q.1\/(d.1=2/\q.1=3) by omega)with h|h|⟨h,h'⟩
 ·refine⟨1,by decide,Nat.one_le_two_pow,fun i hi=>?_⟩
  obtain rfl:i=0:=aa
  rw[h]at d1
  rw[show d.2 0=1 from d1];exact one _
 ·obtain⟨w,hw⟩:=hd
  have hw1:(b9 w).1=1:=by
   have:=(ri (b:=b9 w) (fun t=>by rw[hw,dP]) q0 tq td eZ).2.2
   have:=(ri (b:=b9 w) (fun t=>by rw[hw,dP]) q0 tq td eZ).2.1
   omega
  have e:∀t,aq q t=w.2 0*aq d t:=fun t=>by
   rw[hw,<-dP (a:=w)]
   show _*ev (b9 w).1 w.2 t=_
   rw[hw1]
   show _*(0+w.2 0*t^0)=_
   rw[Rat.pow_zero];grind
  have hl0:w.2 0≠0:=fun h0=>by
   have:=qY tq fun t=>by rw[e,h0,Rat.zero_mul]
   omega
  have hp:jm q (eM (w.2 0) d):=AG tq (uB td hl0) fun t=>by rw[e,dZ]
  have hs:p6 q d:=⟨w.2 0,hl0,h.symm,fun i hi=>hp.2 i hi⟩
  have h2:jm (gq d) d:=⟨rfl,fun i _=>by show d.2 i/d.2 (d.1-1)=d.2 i;rw[d1,Rat.div_def,SH,Rat.mul_one]⟩
  exact((hb.cT tq).z6 (hs.cT.trans h2)).more aa
 ·obtain⟨D,hD,hD2,hz⟩:=hb
  obtain⟨z0,a0,b0⟩:=hz 0 aa
  obtain⟨z1,a1,b1⟩:=hz 1 aa
  obtain⟨z2,a2,b2⟩:=hz 2 aa
  have hq2:q.2 2≠0:=by rcases tq with h3|h3;omega;rw[h']at h3;exact h3
  have hDr:=nE hD
  have hz2:z2≠0:=fun h0=>by
   rw[h0]at a2
   rcases Rat.mul_eq_zero.1 (show q.2 2*(D:Rat)=0 from a2.symm)with h3|h3
   ·exact hq2 h3
   ·exact hDr h3
  obtain⟨w,hw⟩:=hd
  have ed:∀t,aq d t=d.2 0+t:=fun t=>by
   show ev d.1 d.2 t=_
   rw[h]at d1 ⊢
   show 0+d.2 0*t^0+d.2 1*t^1=_
   rw[show d.2 1=1 from d1,Rat.pow_succ,Rat.pow_zero];grind
  have eq0:aq q (-d.2 0)=0:=by rw[hw,ed];grind
  have eq1:q.2 0+q.2 1*(-d.2 0)+q.2 2*(d.2 0*d.2 0)=0:=by
   have:ev q.1 q.2 (-d.2 0)=0:=eq0
   rw[h']at this
   have this:0+q.2 0*(-d.2 0)^0+q.2 1*(-d.2 0)^1+q.2 2*(-d.2 0)^2=0:=this
   rw[Rat.pow_succ,Rat.pow_succ,Rat.pow_succ,Rat.pow_zero]at this
   grind
  -- y = - z2 d0
  have ey:(z2:Rat)*d.2 0*((z2:Rat)*d.2 0)+((-z1:Int):Rat)*((z2:Rat)*d.2 0)+((z0*z2:Int):Rat)=0:=by
   rw[Rat.intCast_neg,Rat.intCast_mul]
   have:(z2:Rat)*d.2 0*((z2:Rat)*d.2 0)+-(z1:Rat)*((z2:Rat)*d.2 0)+(z0:Rat)*(z2:Rat)=(z2:Rat)*((z0:Rat)+(z1:Rat)*(-d.2 0)+(z2:Rat)*(d.2 0*d.2 0)):=by grind
   rw[this,a0,a1,a2]
   have:q.2 0*(D:Rat)+q.2 1*(D:Rat)*(-d.2 0)+q.2 2*(D:Rat)*(d.2 0*d.2 0)=(D:Rat)*(q.2 0+q.2 1*(-d.2 0)+q.2 2*(d.2 0*d.2 0)):=by grind
   rw[this,eq1];grind
  have hden:=adN ey
  obtain⟨y,hy⟩:∃y:Int,(y:Rat)=(z2:Rat)*d.2 0:=⟨((z2:Rat)*d.2 0).num,Rat.ext rfl (id (Eq.symm hden))⟩
  rw[<-hy]at ey
  have ez:y*(y-z1)=-(z0*z2):=by
   have:((y*y+(-z1)*y+z0*z2:Int):Rat)=((0:Int):Rat):=by
    rw[Rat.intCast_add,Rat.intCast_add,Rat.intCast_mul,Rat.intCast_mul];exact ey
   have:y*y+(-z1)*y+z0*z2=0:=by exact_mod_cast this
   grind
  have hyb:y.natAbs<=2^27:=by
   have n1:y.natAbs*(y-z1).natAbs=z0.natAbs*z2.natAbs:=by rw[<-Int.natAbs_mul,ez,Int.natAbs_neg,Int.natAbs_mul]
   have n2:z0.natAbs*z2.natAbs<=2^13*2^13:=Nat.mul_le_mul b0 b2
   refine Decidable.byContradiction fun hn=>?_
   have n3:2^26+1<=(y-z1).natAbs:=aa
   have n4:1*(2^26+1)<=y.natAbs*(y-z1).natAbs:=Nat.mul_le_mul aa n3
   omega
  refine⟨z2,hz2,Nat.le_trans b2 (by decide),fun i hi=>?_⟩
  rcases(show i=0\/i=1 by omega)with rfl|rfl
  ·exact⟨y,by rw[hy,Rat.mul_comm],hyb⟩
  ·rw[h]at d1
   rw[show d.2 1=1 from d1]
   exact⟨z2,(Rat.one_mul _).symm,Nat.le_trans b2 (by decide)⟩
def ki (i:Nat) (c:PP):Prop:=∀g:PP,Trim g->0<g.1->Dv g c->∃(l:Rat) (w h f:PP),l≠0/\(∀t,aq g t=l*aq w t)/\Bd w (120*i)/\Trim w/\kO w h f/\(b9 f).1<=2*i+1
theorem ki.of_eq {i:Nat} {c c':PP} (h:ki i c) (e:∀t,aq c t=aq c' t):ki i c':=fun g tg g0 hd=>h g tg g0 (hd.of_eq fun t=>(e t).symm)
theorem SO {s:Nat}:Bd fJ s:=⟨1,by decide,Nat.one_le_two_pow,fun i _=>⟨1,(Rat.one_mul _).symm,Nat.one_le_two_pow⟩⟩
theorem Cy:Trim fJ:=.inr (by decide)
theorem ki.one:ki 0 fJ:=fun g tg g0 hd=>by
 have hl:=hd.len (show 0<1 by decide) Cy tg
 have hl:g.1<=1:=hl
 have h1:g.1=1:=aa
 have e:∀t,aq g t=g.2 0:=fun t=>by
  show ev g.1 g.2 t=_
  rw[h1]
  show 0+g.2 0*t^0=_
  rw[Rat.pow_zero];grind
 refine⟨g.2 0,fJ,fJ,fJ,fun h0=>?_,fun t=>by rw[e,gH,Rat.mul_one],SO,Cy,kO.one,mJ⟩
 have:=qY tg fun t=>by rw[e,h0]
 omega
theorem HJ {g w:PP} {l:Rat} (tg:Trim g) (tw:Trim w) (hl:l≠0) (e:∀t,aq g t=l*aq w t):g.1=w.1:=
 (AG (b:=eM l w) tg (uB tw hl) fun t=>by rw[e,dZ]).1
theorem Fz {g q c c':PP} (tg:Trim g) (g0:0<g.1) (tq:Trim q) (e:∀t,aq c' t=aq c t*aq q t) (hd:Dv g c'):
  ∃d g1:PP,Trim d/\0<d.1/\d.2 (d.1-1)=1/\Dv d q/\Trim g1/\0<g1.1/\(∀t,aq g t=aq d t*aq g1 t)/\Dv g1 c/\∀h,Dv h g->Dv h q->Dv h d:=by
 obtain⟨a1,b1,h1,h2,h3⟩:=Cq tg tq g0
 obtain⟨w,hw⟩:=hd
 have td:=j8 tg tq
 have d0:=mP (b:=q) g0
 have hc:∀t,aq (bP b1 c) t=aq (bP a1 w) t:=vH d0 td fun t=>by
  have k1:=h1 t
  have k2:=h2 t
  have k3:=hw t
  have k4:=e t
  rw[bQ,bQ]
  generalize aq (bL g q) t=x at*
  rw[k4,k1,k2]at k3
  grind
 have hd1:Dv a1 c:=h3.dv (w:=w) fun t=>by rw[<-bQ,hc,bQ]
 refine⟨bL g q,b9 a1,td,d0,sw (a:=(ct (g,q) q.1).1) (tO (s:=(g,q)) g0 _) (mH (s:=(g,q)) tg tq _).1,⟨b1,h2⟩,eZ,?_,fun t=>by rw[dP];exact h1 t,hd1.imp fun w hw t=>by rw[hw,dP],fun h k1 k2=>qM k1 k2⟩
 rcases Nat.eq_zero_or_pos (b9 a1).1 with h|h
 ·have:=qY tg fun t=>by rw[h1,<-dP (a:=a1),iF h,Rat.mul_zero]
  omega
 ·exact h
theorem ki.UR {i:Nat} {c c' q:PP} (h:ki i c) (hc:0<(b9 c').1/\(b9 c').1<=30) (hb:Bd q 13) (tq:Trim q) (q0:0<q.1) (lq:q.1<=3) (e:∀t,aq c' t=aq c t*aq q t):ki (i+1) c':=fun g tg g0 hd=>by
 have lg:g.1<=30:=Nat.le_trans ((hd.of_eq fun t=>(dP t).symm).len hc.1 eZ tg) hc.2
 obtain⟨d,g1,td,d0,d1,dq,t1,p1,e1,k1,_⟩:=Fz tg g0 tq e hd
 obtain⟨bd,ld⟩:=Dr hb tq q0 lq td d0 d1 dq
 obtain⟨l,w,hh,f,hl,ew,bw,tw,sq,lf⟩:=h g1 t1 p1 k1
 have lg1:=Dv.len (h:=g1) (g:=g) ⟨d,fun t=>by rw[e1,Rat.mul_comm]⟩ g0 tg t1
 have lw:=HJ t1 tw hl ew
 refine⟨l,b9 (bP w d),hh,bP f d,hl,fun t=>by rw[e1,ew,dP,bQ];grind,cW.short ((yc bw bd aa aa).more aa) mJ,eZ,(sq.LK (c':=bP w d) fun t=>bQ).of_eq fun t=>(dP t).symm,?_⟩
 have c1:=Fk (a:=f) (b:=d)
 have c2:=mJ (a:=d)
 omega
theorem ki.UE {i:Nat} {c c' q:PP} (h:ki i c) (hc:0<(b9 c').1/\(b9 c').1<=30) (hb:Bd q 13) (tq:Trim q) (q0:0<q.1) (lq:q.1<=3) (e:∀t,aq c' t=aq c t*aq q t*aq q t):ki (i+1) c':=fun g tg g0 hd=>by
 have lg:g.1<=30:=Nat.le_trans ((hd.of_eq fun t=>(dP t).symm).len hc.1 eZ tg) hc.2
 obtain⟨d1,g1,td1,d10,d11,dq1,t1,p1,e1,k1,u1⟩:=Fz (c:=bP c q) tg g0 tq (fun t=>by rw[bQ,e]) hd
 obtain⟨d2,g2,td2,d20,d21,dq2,t2,p2,e2,k2,_⟩:=Fz (c:=c) t1 p1 tq (fun t=>bQ) k1
 have dg:Dv d2 d1:=u1 d2 ⟨bP d1 g2,fun t=>by rw[e1,e2,bQ];grind⟩ dq2
 obtain⟨x,hx⟩:=dg
 have x0:0<(b9 x).1/\d1.1=d2.1-1+((b9 x).1-1)+1:=by
  have:=ri (a:=d2) (b:=b9 x) (fun t=>by rw[dP];exact hx t) d10 td1 td2 eZ
  exact⟨this.2.1,this.2.2⟩
 have ll:=dq1.len q0 tq td1
 have xm:Dv (gq (b9 x)) q:=by
  obtain⟨v,hv⟩:=dq1
  refine⟨eM ((b9 x).2 ((b9 x).1-1)) (bP d2 v),fun t=>?_⟩
  rw[hv,hx,<-dP (a:=x),AU eZ,dZ,bQ];grind
 obtain⟨bx,lx⟩:=Dr hb tq q0 lq (oo eZ) x0.1 (sw x0.1 eZ) xm
 obtain⟨b2,l2⟩:=Dr hb tq q0 lq td2 d20 d21 dq2
 obtain⟨l,w,hh,f,hl,ew,bw,tw,sq,lf⟩:=h g2 t2 p2 k2
 have lg2:=Dv.len (h:=g2) (g:=g) ⟨bP d1 d2,fun t=>by rw[e1,e2,bQ];grind⟩ g0 tg t2
 have lw:=HJ t2 tw hl ew
 have hxl:(b9 x).2 ((b9 x).1-1)≠0:=by rcases eZ (a:=x)with h|h;omega;exact h
 have lx':(gq (b9 x)).1=(b9 x).1:=rfl
 have y1:=yc bw bx aa aa
 have y2:=yc y1 b2 (by show w.1+(b9 x).1+1<=_;omega) aa
 have y3:=yc y2 b2 (by show w.1+(b9 x).1+1+d2.1+1<=_;omega) aa
 refine⟨l*(b9 x).2 ((b9 x).1-1),b9 (bP (bP (bP w (gq (b9 x))) d2) d2),bP hh d2,bP (bP f (gq (b9 x))) d2,fun h0=>(Rat.mul_eq_zero.1 h0).elim hl hxl,fun t=>?_,cW.short (y3.more aa) mJ,eZ,((sq.LK (c':=bP w (gq (b9 x))) fun t=>bQ).aeS (c':=bP (bP (bP w (gq (b9 x))) d2) d2) fun t=>by rw[bQ,bQ]).of_eq fun t=>(dP t).symm,?_⟩
 ·rw[e1,e2,ew,hx,<-dP (a:=x),AU eZ,dP,bQ,bQ,bQ];grind
 ·have c1:=Fk (a:=bP f (gq (b9 x))) (b:=d2)
  have c2:=Fk (a:=f) (b:=gq (b9 x))
  have c3:=mJ (a:=d2)
  have c4:=mJ (a:=gq (b9 x))
  omega
def ud (i:Nat) (p:PP):Prop:=(∃t,iZ p t≠0)->ki i (lI p)
theorem ud.one:ud 0 (1,fun _=>1):=fun _=>ki.one.of_eq fun t=>by rw[mq (show 1<=1 by decide),gH];rfl
theorem ud.step {i r:Nat} {p q:PP} (h:ud i p) (hp:1<=p.1) (hq:ua q) (hr:1<=r/\r<=2) (hl30:(ju p q r).1<=30):ud (i+1) (ju p q r):=fun⟨t0,h0⟩=>by
 have hl:=He hp hq r
 have bq:Bd (b9 (lI q)) 13:=cW.short hq.pw mJ
 have lq:(b9 (lI q)).1<=3:=Nat.le_trans mJ hq.hi
 have key:iZ p t0≠0->iZ q t0≠0->ki i (lI p)/\0<(b9 (lI q)).1:=fun h1 h2=>⟨h ⟨t0,h1⟩,by
  rcases Nat.eq_zero_or_pos (b9 (lI q)).1 with h3|h3
  ·exact absurd (by rw[<-mq hq.lo,<-dP,iF h3]) h2
  ·exact h3⟩
 have hc:0<(b9 (lI (ju p q r))).1/\(b9 (lI (ju p q r))).1<=30:=⟨by
  rcases Nat.eq_zero_or_pos (b9 (lI (ju p q r))).1 with h3|h3
  ·exact absurd (by rw[<-mq hl.1,<-dP,iF h3]) h0
  ·exact h3,Nat.le_trans mJ hl30⟩
 rcases(show r=1\/r=2 by omega)with rfl|rfl
 ·have e:∀t,iZ (ju p q 1) t=iZ p t*iZ q t:=fun t=>tW t
  rw[e]at h0
  obtain⟨k1,k2⟩:=key (fun h=>h0 (by rw[h,Rat.zero_mul])) (fun h=>h0 (by rw[h,Rat.mul_zero]))
  exact k1.UR hc bq eZ k2 lq fun t=>by rw[mq hl.1,e,dP,mq hp,mq hq.lo]
 ·have e:∀t,iZ (ju p q 2) t=iZ p t*iZ q t*iZ q t:=fun t=>by
   show iZ (oK (oK p q) q) t=_
   rw[tW,tW]
  rw[e]at h0
  obtain⟨k1,k2⟩:=key (fun h=>h0 (by rw[h,Rat.zero_mul,Rat.zero_mul])) (fun h=>h0 (by rw[h,Rat.mul_zero]))
  exact k1.UE hc bq eZ k2 lq fun t=>by rw[mq hl.1,e,dP,mq hp,mq hq.lo]
structure ck (c:PP):Prop where
 tr:Trim c
 p0:0<c.1
 len:c.1<=13
 bd:Bd c 800
 dv:∀g:PP,Trim g->0<g.1->Dv g c->Bd (gq g) 800/\∃h f:PP,kO g h f/\(b9 f).1<=7
theorem Uk {g:PP} (h:g.2 (g.1-1)=1):jm (gq g) g:=⟨rfl,fun i _=>by
 show g.2 i/g.2 (g.1-1)=g.2 i
 have:(1:Rat)⁻¹=1:=by decide+kernel
 rw[h,Rat.div_def,this,Rat.mul_one]⟩
theorem ck.qL {c g:PP} (h:ck c) (tg:Trim g) (g0:0<g.1) (hd:Dv g c) (hm:g.2 (g.1-1)=1):ck g where
 tr:=tg
 p0:=g0
 len:=Nat.le_trans (hd.len h.p0 h.tr tg) h.len
 bd:=(h.dv g tg g0 hd).1.z6 (Uk hm)
 dv:=fun k tk k0 kd=>h.dv k tk k0 (kd.trans hd)
theorem ki.gd {i:Nat} {c:PP} (h:ki i c) (hi:i<=6) (hf:i<=3\/c.1<=7) (tc:Trim c) (c0:0<c.1) (lc:c.1<=13) (bc:Bd c 800):ck c where
 tr:=tc
 p0:=c0
 len:=lc
 bd:=bc
 dv:=fun g tg g0 hd=>by
  obtain⟨l,w,hh,f,hl,ew,bw,tw,sq,lf⟩:=h g tg g0 hd
  have hp:jm g (eM l w):=AG tg (uB tw hl) fun t=>by rw[ew,dZ]
  have hs:p6 g w:=⟨l,hl,hp.1,fun i hi=>hp.2 i hi⟩
  have bw2:Bd w 800:=bw.more aa
  refine⟨(bw2.cT tw).z6 hs.cT.symm,?_⟩
  rcases hf with hf|hf
  ·refine⟨hh,eM l f,⟨fun t=>by rw[ew,sq.eq,dZ];grind,sq.dv.qT l fun t=>?_⟩,?_⟩
   ·have:=ku (a:=(1,fun _=>l)) (b:=w) (c:=g) (fun t=>by rw[ew];congr 1;show l=0+l*t^0;rw[Rat.pow_zero];grind) t
    rw[fF,fF,this]
    have z:cV (1,fun _=>l) t=0:=by
     show 0+l*(((0:Nat):Int)*t^(0-1):Rat)=0
     rw[show(((0:Nat):Int):Rat)=0 from rfl];grind
    have z2:aq (1,fun _=>l) t=l:=by show 0+l*t^0=l;rw[Rat.pow_zero];grind
    rw[z,z2];grind
   ·show cr (fun i=>l*f.2 i) f.1<=7
    rw[EL hl]
    have:cr f.2 f.1<=2*i+1:=lf
    omega
  ·have:=hd.len c0 tc tg
   exact⟨fJ,g,⟨fun t=>by rw[gH,Rat.one_mul],⟨bh g,fun t=>by rw[gH,Rat.one_mul]⟩⟩,Nat.le_trans mJ aa⟩
theorem ck.gcd {c:PP} (h:ck c):ck (bL c (bh c)):=
 h.qL (j8 h.tr dS) (mP h.p0) (l9 h.tr dS).1 (sw (a:=(ct (c,bh c) (bh c).1).1) (tO (s:=(c,bh c)) h.p0 _) (mH (s:=(c,bh c)) h.tr dS _).1)
theorem UY {c:PP} (tc:Trim c) (c0:0<c.1):(aW c).2 ((aW c).1-1)=1:=by
 have h:=ue tc c0
 unfold aW at h ⊢
 rw[if_neg aa]at h ⊢
 exact sw h Bk
theorem ck.free {c:PP} (h:ck c):ck (aW c)/\(aW c).1<=7:=by
 obtain⟨G,e,_,_,h1,_⟩:=ng h.tr h.p0
 obtain⟨_,hh,f,sq,lf⟩:=h.dv c h.tr h.p0 (.refl c)
 exact⟨h.qL iA (ue h.tr h.p0) ⟨G,fun t=>by rw[h1,Rat.mul_comm]⟩ (UY h.tr h.p0),Nat.le_trans (afA sq h.p0 h.tr) lf⟩
def Ab (x M:Rat):Prop:=-M<=x/\x<=M
theorem Ab.add {x y M N:Rat} (h:Ab x M) (h':Ab y N):Ab (x+y) (M+N):=by
 unfold Ab at*;constructor<;>grind
theorem Ab.sub {x y M N:Rat} (h:Ab x M) (h':Ab y N):Ab (x-y) (M+N):=by
 unfold Ab at*;constructor<;>grind
theorem Ab.mul {x y M N:Rat} (h:Ab x M) (h':Ab y N):Ab (x*y) (M*N):=by
 unfold Ab at*
 have h1:=Rat.mul_nonneg (a:=M-x) (b:=N+y) (by grind) (by grind)
 have h2:=Rat.mul_nonneg (a:=M+x) (b:=N-y) (by grind) (by grind)
 have h3:=Rat.mul_nonneg (a:=M-x) (b:=N-y) (by grind) (by grind)
 have h4:=Rat.mul_nonneg (a:=M+x) (b:=N+y) (by grind) (by grind)
 constructor<;>grind
theorem Ab.more {x M N:Rat} (h:Ab x M) (hM:M<=N):Ab x N:=by
 unfold Ab at*;constructor<;>grind
theorem Ab.pos {x M:Rat} (h:Ab x M):0<=M:=by unfold Ab at*;grind
theorem Ab.zero {M:Rat} (h:0<=M):Ab 0 M:=by unfold Ab;constructor<;>grind
def T2 (n:Nat):Rat:=2^n
theorem nC (n:Nat):T2 (n+1)=2*T2 n:=by unfold T2;rw[Rat.pow_succ,Rat.mul_comm]
theorem jO:∀n,0<T2 n
 |0=>by unfold T2;rw[Rat.pow_zero];decide
 |n+1=>by rw[nC];have:=jO n;grind
theorem nh (m n:Nat):T2 (m+n)=T2 m*T2 n:=pow_add' 2 m n
theorem rX:∀n,1<=T2 n
 |0=>by unfold T2;rw[Rat.pow_zero];decide
 |n+1=>by rw[nC];have:=rX n;grind
theorem jq {m n:Nat} (h:m<=n):T2 m<=T2 n:=by
 obtain⟨k,rfl⟩:∃k,n=m+k:=⟨n-m,aa⟩
 rw[nh]
 have h1:=jO m
 have h2:=rX k
 have:=Rat.mul_le_mul_of_nonneg_left (c:=T2 m) h2 (by grind)
 grind
theorem wg:∀n:Nat,T2 n=((2^n:Nat):Int)
 |0=>by unfold T2;rw[Rat.pow_zero];rfl
 |n+1=>by
  rw[nC,wg n,Nat.pow_succ,Int.natCast_mul,Rat.intCast_mul]
  show(2:Rat)*_=_*2
  rw[Rat.mul_comm]
theorem lQ {a b:Int} (h:a<=b):(a:Rat)<=(b:Rat):=by exact_mod_cast h
theorem bY.ab {D:Int} {s:Nat} {x:Rat} (h:bY D s x) (hD:D≠0):Ab x (T2 s):=by
 obtain⟨z,h1,h2⟩:=h
 have z1:(z:Rat)<=T2 s:=by rw[wg];exact lQ aa
 have z2:-(T2 s)<=(z:Rat):=by rw[wg,<-Rat.intCast_neg];exact lQ aa
 have hT:=jO s
 rcases(show D<=-1\/1<=D by omega)with hd|hd
 ·have d1:(D:Rat)<=-1:=lQ (b:=-1) hd
  constructor
  ·refine Decidable.byContradiction fun hn=>?_
   have h3:=Rat.mul_pos (a:=-T2 s-x) (b:=T2 s) (by grind) hT
   have h4:=Rat.mul_nonneg (a:=-x) (b:=-D-1) (by grind) (by grind)
   grind
  ·refine Decidable.byContradiction fun hn=>?_
   have h4:=Rat.mul_nonneg (a:=x) (b:=-D-1) (by grind) (by grind)
   grind
 ·have d1:(1:Rat)<=(D:Rat):=lQ (a:=1) hd
  constructor
  ·refine Decidable.byContradiction fun hn=>?_
   have h4:=Rat.mul_nonneg (a:=-x) (b:=D-1) (by grind) (by grind)
   grind
  ·refine Decidable.byContradiction fun hn=>?_
   have h4:=Rat.mul_nonneg (a:=x) (b:=D-1) (by grind) (by grind)
   grind
theorem bY.low {D:Int} {s e:Nat} {x:Rat} (h:bY D s x) (hD0:D≠0) (hD:D.natAbs<=2^e) (hx:x≠0):1<=x*T2 e\/x*T2 e<=-1:=by
 obtain⟨z,h1,_⟩:=h
 have hz:z≠0:=fun h0=>by
  rw[h0]at h1
  exact(Rat.mul_eq_zero.1 (show x*(D:Rat)=0 from h1.symm)).elim hx (nE hD0)
 have z1:(D:Rat)<=T2 e:=by rw[wg];exact lQ aa
 have z2:-(T2 e)<=(D:Rat):=by rw[wg,<-Rat.intCast_neg];exact lQ aa
 have hzz:(z:Rat)<=-1\/1<=(z:Rat):=by
  rcases(show z<=-1\/1<=z by omega)with h|h
  ·exact .inl (lQ (b:=-1) h)
  ·exact .inr (lQ (a:=1) h)
 rcases(show x<0\/0<x by grind)with hx|hx
 ·right
  rcases hzz with h|h
  ·have:=Rat.mul_nonneg (a:=-x) (b:=T2 e-D) (by grind) (by grind);grind
  ·have:=Rat.mul_nonneg (a:=-x) (b:=T2 e+D) (by grind) (by grind);grind
 ·left
  rcases hzz with h|h
  ·have:=Rat.mul_nonneg (a:=x) (b:=T2 e+D) (by grind) (by grind);grind
  ·have:=Rat.mul_nonneg (a:=x) (b:=T2 e-D) (by grind) (by grind);grind
theorem Ab.pow {t:Rat} {r:Nat} (h:Ab t (T2 r)):∀n:Nat,Ab (t^n) (T2 (r*n))
 |0=>by rw[Rat.pow_zero,Nat.mul_zero];exact⟨by unfold T2;rw[Rat.pow_zero];decide+kernel,by unfold T2;rw[Rat.pow_zero];decide+kernel⟩
 |n+1=>by rw[Rat.pow_succ,Nat.mul_succ,nh];exact(Ab.pow h n).mul h
def pZ (n:Nat) (k:Nat->Rat) (s:Nat):Prop:=∀i,i<n->Ab (k i) (T2 s)
theorem cW.cf {n s:Nat} {k:Nat->Rat} (h:cW n k s):pZ n k s:=by
 obtain⟨D,d1,d2,d3⟩:=h
 exact fun i hi=>(d3 i hi).ab d1
theorem wO {k:Nat->Rat} {s r:Nat} {t:Rat} (ht:Ab t (T2 r)):∀n,pZ n k s->Ab (ev n k t) (T2 (s+n*(r+1)))
 |0,_=>Ab.zero (by have:=jO (s+0*(r+1));grind)
 |n+1,h=>by
  rw[Kn]
  have h1:=wO ht n fun i hi=>h i aa
  have h2:=(h n aa).mul (ht.pow n)
  rw[<-nh]at h2
  have h3:T2 (s+r*n)<=T2 (s+n*(r+1)):=jq (by rw[Nat.mul_add,Nat.mul_comm n r];omega)
  have h4:T2 (s+n*(r+1)+1)<=T2 (s+(n+1)*(r+1)):=jq (by rw[Nat.add_mul];omega)
  rw[nC]at h4
  exact(h1.add h2).more (by grind)
theorem Tj {n s r m:Nat} {k:Nat->Rat} {t:Rat} (ht:Ab t (T2 r)) (h:pZ n k s) (hm:m<=n):Ab (fT n k t m) (T2 (s+n*(r+1))):=by
 rw[F5 m hm]
 refine(wO (s:=s) ht m fun i hi=>h _ aa).more (jq ?_)
 have:=Nat.mul_le_mul_right (r+1) hm
 omega
theorem Iw {n s r:Nat} {k:Nat->Rat} {x:Rat} (hx:Ab x (T2 r)) (h:pZ (n+1) k s):pZ n (j7 (n+1) k x) (s+(n+1)*(r+1)):=fun i hi=>Tj hx h aa
theorem AZ {s r:Nat} {k:Nat->Rat} {x y:Rat} (hx:Ab x (T2 r)) (hy:Ab y (T2 r)):∀n,pZ n k s->∃q:Rat,ev n k y-ev n k x=(y-x)*q/\Ab q (T2 (s+2*(n*(r+1))))
 |0,_=>⟨0,by show(0:Rat)-0=_;grind,Ab.zero (by have:=jO (s+2*(0*(r+1)));grind)⟩
 |n+1,h=>by
  refine⟨ev n (j7 (n+1) k x) y,by rw[uT (c:=x) (t:=y)];grind,(wO hy n (Iw hx h)).more (jq ?_)⟩
  rw[Nat.add_mul];omega
theorem U0 {k:Nat->Rat} {x:Rat} (n:Nat):cV (n+1,k) x=ev n (j7 (n+1) k x) x:=by
 have e:∀t,aq (n+1,k) t=aq (ga x) t*aq (n,j7 (n+1) k x) t+ev (n+1) k x:=fun t=>by rw[kz];exact uT n
 have e2:∀t,aq (gE (n+1,k) (1,fun _=>-ev (n+1) k x)) t=aq (ga x) t*aq (n,j7 (n+1) k x) t:=fun t=>by
  rw[iG,e]
  show _+(0+-ev (n+1) k x*t^0)=_
  rw[Rat.pow_zero];grind
 have h:=ku e2 x
 rw[kz,Dn,show x-x=0 by grind,Rat.zero_mul,Rat.add_zero,Rat.one_mul]at h
 rw[show ev n (j7 (n+1) k x) x=aq (n,j7 (n+1) k x) x from rfl,<-h]
 show _=sg (fun i=>(eE (n+1,k) i+eE (1,fun _=>-ev (n+1) k x) i)*dX x i) (max (n+1) 1)
 rw[iw (g:=fun i=>eE (n+1,k) i*dX x i+eE (1,fun _=>-ev (n+1) k x) i*dX x i) fun i _=>by grind,rR,uM (a:=(n+1,k)) (Nat.le_max_left _ _),uM (a:=(1,fun _=>-ev (n+1) k x)) (Nat.le_max_right _ _)]
 have z:cV (1,fun _=>-ev (n+1) k x) x=0:=by
  show 0+-ev (n+1) k x*(((0:Nat):Int)*x^(0-1):Rat)=0
  rw[show(((0:Nat):Int):Rat)=0 from rfl];grind
 rw[z,Rat.add_zero]
theorem Tt {a:PP} {s r:Nat} {x y:Rat} (hx:Ab x (T2 r)) (hy:Ab y (T2 r)) (h:pZ a.1 a.2 s):∃q:Rat,aq a y-aq a x=(y-x)*(cV a x+(y-x)*q)/\Ab q (T2 (s+3*(a.1*(r+1)))):=by
 obtain⟨m,k⟩:=a
 cases m with
 |zero=>exact⟨0,by show(0:Rat)-0=(y-x)*(0+_);grind,Ab.zero (by have:=jO (s+3*(0*(r+1)));grind)⟩
 |succ n=>
  obtain⟨q,h1,h2⟩:=AZ hx hy n (Iw hx h)
  refine⟨q,?_,h2.more (jq ?_)⟩
  ·rw[U0]
   show ev (n+1) k y-ev (n+1) k x=_
   rw[uT (c:=x) (t:=y)]
   have:ev n (j7 (n+1) k x) y=ev n (j7 (n+1) k x) x+(y-x)*q:=by grind
   rw[this];grind
  ·show s+(n+1)*(r+1)+2*(n*(r+1))<=s+3*((n+1)*(r+1))
   rw[Nat.add_mul];omega
def eF (a b:Rat):Prop:=(0<a/\0<b)\/(a<0/\b<0)
theorem gz {q:Rat} (h:0<q):bR q=1:=by unfold bR;rw[if_neg (by grind),if_pos h]
theorem gA {q:Rat} (h:q<0):bR q=-1:=by unfold bR;rw[if_pos h]
theorem m8 {q:Rat} (h:q=0):bR q=0:=by subst h;rfl
def Bt (k:Nat) (a b:Nat->Rat):Prop:=∀j,j<=k->eF (a j) (b j)\/(∃i,j=i+1/\i+2<=k/\eF (a i) (b i)/\eF (a (i+2)) (b (i+2))/\¬eF (a i) (a (i+2)))\/(j=0/\1<=k/\eF (a 1) (b 1)/\((0<a 1/\a 0<b 0)\/(a 1<0/\b 0<a 0)))
def vr (a:Nat->Rat) (n:Nat):Nat:=(cN (fun i=>bR (a i)) n).2
theorem l6 (s:Nat->Int) (i:Nat):cN s (i+1)=(if s i=0 then(cN s i).1 else s i,if s i*(cN s i).1<0 then(cN s i).2+1 else(cN s i).2):=rfl
theorem eF.gk {a b:Rat} (h:eF a b):(bR a=1/\bR b=1)\/(bR a=-1/\bR b=-1):=by
 rcases h with⟨h1,h2⟩|⟨h1,h2⟩
 ·exact .inl ⟨gz h1,gz h2⟩
 ·exact .inr ⟨gA h1,gA h2⟩
theorem yp (a:Rat):bR a=1\/bR a=-1\/bR a=0:=by
 rcases(show 0<a\/a<0\/a=0 by grind)with h|h|h
 ·exact .inl (gz h)
 ·exact .inr (.inl (gA h))
 ·exact .inr (.inr (m8 h))
theorem HZ {s:Nat->Int} {i:Nat} (h:s i≠0):(cN s (i+1)).1=s i:=by rw[l6];exact if_neg h
theorem Pe {s:Nat->Int} {j:Nat} {e:Int} (he:e=1\/e=-1) (h1:(cN s (j+1)).1=e) (h2:s (j+2)=-e) (h3:s (j+1)=1\/s (j+1)=-1\/s (j+1)=0):(cN s (j+3)).2=(cN s (j+1)).2+1:=by
 rw[l6 s (j+2),l6 s (j+1),h1,h2]
 generalize (cN s (j+1)).2=c
 rcases he with rfl|rfl<;>rcases h3 with h|h|h<;>rw[h]<;>simp
theorem KF {k:Nat} {a b:Nat->Rat} (h:Bt k a b):∀m j,j+m=k->eF (a j) (b j)->((cN (fun i=>bR (a i)) (k+1)).2:Int)-(cN (fun i=>bR (b i)) (k+1)).2=((cN (fun i=>bR (a i)) (j+1)).2:Int)-(cN (fun i=>bR (b i)) (j+1)).2:=by
 intro m
 induction m using Nat.strongRecOn with
 |_ m ih=>
  intro j hj hs
  cases m with
  |zero=>rw[show k=j by omega]
  |succ m=>
   have ea:(cN (fun i=>bR (a i)) (j+1)).1=bR (a j):=HZ (s:=fun i=>bR (a i)) (by rcases hs.gk with⟨h1,_⟩|⟨h1,_⟩<;>simp[h1])
   have eb:(cN (fun i=>bR (b i)) (j+1)).1=bR (b j):=HZ (s:=fun i=>bR (b i)) (by rcases hs.gk with⟨_,h1⟩|⟨_,h1⟩<;>simp[h1])
   rcases h (j+1) aa with h1|⟨i,e,h2,_,h3,h4⟩|⟨h1,_⟩
   ·rw[ih m aa (j+1) aa h1,l6 (fun i=>bR (a i)) (j+1),l6 (fun i=>bR (b i)) (j+1),ea,eb]
    rcases hs.gk with⟨k1,k2⟩|⟨k1,k2⟩<;>rcases h1.gk with⟨k3,k4⟩|⟨k3,k4⟩<;>simp[k1,k2,k3,k4]<;>omega
   ·obtain rfl:i=j:=aa
    rw[ih (m-1) aa (i+2) aa h3]
    have key:bR (a (i+2))=-bR (a i)/\bR (b (i+2))=-bR (b i)/\(bR (a i)=1\/bR (a i)=-1)/\(bR (b i)=1\/bR (b i)=-1):=by
     rcases hs with⟨k1,k2⟩|⟨k1,k2⟩<;>rcases h3 with⟨k3,k4⟩|⟨k3,k4⟩
     ·exact absurd (.inl ⟨k1,k3⟩) h4
     ·rw[gz k1,gz k2,gA k3,gA k4];simp
     ·rw[gA k1,gA k2,gz k3,gz k4];simp
     ·exact absurd (.inr ⟨k1,k3⟩) h4
    rw[Pe key.2.2.1 ea key.1 (yp _),Pe key.2.2.2 eb key.2.1 (yp _)]
    omega
   ·omega
def rS (a:Nat->Rat):Int:=if bR (a 0)=0 then bR (a 1)else bR (a 0)
theorem afR {k:Nat} {a b:Nat->Rat} (h:Bt k a b):
  (vr a (k+1)=vr b (k+1)/\b 0≠0/\(a 0=0\/eF (a 0) (b 0))/\rS b=rS a/\rS a≠0)\/(vr a (k+1)=vr b (k+1)+1/\a 0≠0/\¬eF (a 0) (b 0)/\rS b=-rS a/\rS a≠0):=by
 rcases h 0 (Nat.zero_le _)with h0|⟨i,e,_⟩|⟨_,hk,h1,hm⟩
 ·left
  have ht:=KF h k 0 aa h0
  have e1:(cN (fun i=>bR (a i)) (0+1)).2=0:=by rw[l6];simp[cN]
  have e2:(cN (fun i=>bR (b i)) (0+1)).2=0:=by rw[l6];simp[cN]
  rw[e1,e2]at ht
  refine⟨by unfold vr;omega,by rcases h0 with⟨h1,h2⟩|⟨h1,h2⟩<;>grind,.inr h0,?_⟩
  unfold rS
  rcases h0.gk with⟨h1,h2⟩|⟨h1,h2⟩<;>simp[h1,h2]
 ·omega
 ·have ht:=KF h (k-1) 1 aa h1
  have ea:(cN (fun i=>bR (a i)) (1+1)).2=if bR (a 1)*bR (a 0)<0 then 1 else 0:=by
   rw[l6,l6]
   rcases yp (a 0)with h|h|h<;>simp[h,cN]
  have eb:(cN (fun i=>bR (b i)) (1+1)).2=if bR (b 1)*bR (b 0)<0 then 1 else 0:=by
   rw[l6,l6]
   rcases yp (b 0)with h|h|h<;>simp[h,cN]
  rw[ea,eb]at ht
  have ev:∀x y:Nat,(x:Int)-y=0->x=y:=fun x y h=>aa
  have ev1:∀x y:Nat,(x:Int)-y=1->x=y+1:=fun x y h=>aa
  unfold vr
  rcases hm with⟨p1,p2⟩|⟨p1,p2⟩
  ·have q1:0<b 1:=by rcases h1 with⟨_,h⟩|⟨h,_⟩<;>grind
   rw[gz p1,gz q1]at ht
   rcases(show 0<a 0\/a 0<0\/a 0=0 by grind)with ha|ha|ha
   ·have hb:0<b 0:=by grind
    rw[gz ha,gz hb]at ht
    exact .inl ⟨ev _ _ (by rw[ht];decide),by grind,.inr (.inl ⟨ha,hb⟩),by unfold rS;simp[gz ha,gz hb],by unfold rS;simp[gz ha]⟩
   ·rw[gA ha]at ht
    rcases(show 0<b 0\/b 0<0\/b 0=0 by grind)with hb|hb|hb
    ·rw[gz hb]at ht
     exact .inr ⟨ev1 _ _ (by rw[ht];decide),by grind,by unfold eF;grind,by unfold rS;simp[gA ha,gz hb],by unfold rS;simp[gA ha]⟩
    ·rw[gA hb]at ht
     exact .inl ⟨ev _ _ (by rw[ht];decide),by grind,.inr (.inr ⟨ha,hb⟩),by unfold rS;simp[gA ha,gA hb],by unfold rS;simp[gA ha]⟩
    ·rw[m8 hb]at ht
     exact .inr ⟨ev1 _ _ (by rw[ht];decide),by grind,by unfold eF;grind,by unfold rS;simp[gA ha,m8 hb,gz q1],by unfold rS;simp[gA ha]⟩
   ·have hb:0<b 0:=by grind
    rw[m8 ha,gz hb]at ht
    exact .inl ⟨ev _ _ (by rw[ht];decide),by grind,.inl ha,by unfold rS;simp[m8 ha,gz hb,gz p1],by unfold rS;simp[m8 ha,gz p1]⟩
  ·have q1:b 1<0:=by rcases h1 with⟨h,_⟩|⟨_,h⟩<;>grind
   rw[gA p1,gA q1]at ht
   rcases(show 0<a 0\/a 0<0\/a 0=0 by grind)with ha|ha|ha
   ·rw[gz ha]at ht
    rcases(show 0<b 0\/b 0<0\/b 0=0 by grind)with hb|hb|hb
    ·rw[gz hb]at ht
     exact .inl ⟨ev _ _ (by rw[ht];decide),by grind,.inr (.inl ⟨ha,hb⟩),by unfold rS;simp[gz ha,gz hb],by unfold rS;simp[gz ha]⟩
    ·rw[gA hb]at ht
     exact .inr ⟨ev1 _ _ (by rw[ht];decide),by grind,by unfold eF;grind,by unfold rS;simp[gz ha,gA hb],by unfold rS;simp[gz ha]⟩
    ·rw[m8 hb]at ht
     exact .inr ⟨ev1 _ _ (by rw[ht];decide),by grind,by unfold eF;grind,by unfold rS;simp[gz ha,m8 hb,gA q1],by unfold rS;simp[gz ha]⟩
   ·have hb:b 0<0:=by grind
    rw[gA ha,gA hb]at ht
    exact .inl ⟨ev _ _ (by rw[ht];decide),by grind,.inr (.inr ⟨ha,hb⟩),by unfold rS;simp[gA ha,gA hb],by unfold rS;simp[gA ha]⟩
   ·have hb:b 0<0:=by grind
    rw[m8 ha,gA hb]at ht
    exact .inl ⟨ev _ _ (by rw[ht];decide),by grind,.inl ha,by unfold rS;simp[m8 ha,gA hb,gA p1],by unfold rS;simp[m8 ha,gA p1]⟩
theorem Tp {a q:Nat->Rat} {k:Nat} {η Q P:Rat} (hr:∀j,j+2<=k->a j=q j*a (j+1)-a (j+2)) (hq:∀j,j+2<=k->Ab (q j) Q) (hQ:0<=Q) (hP:Q+1<=P) (hη:0<η) (hl:P^k*η<=a k\/a k<=-(P^k*η)) {j:Nat} (hj:j+1<=k) (h1:-η<a j) (h2:a j<η):P*η<=a (j+1)\/a (j+1)<=-(P*η):=by
 refine Decidable.byContradiction fun hn=>?_
 have hpw:∀i:Nat,1<=P^i:=fun i=>by
  induction i with
  |zero=>rw[Rat.pow_zero];decide
  |succ i ih=>rw[Rat.pow_succ];have:=Rat.mul_nonneg (a:=P^i) (b:=P-1) (by grind) (by grind);grind
 have step:∀i,j+1+i<=k->(-(P^i*η)<a (j+i)/\a (j+i)<P^i*η)/\-(P^(i+1)*η)<a (j+1+i)/\a (j+1+i)<P^(i+1)*η:=by
  intro i
  induction i with
  |zero=>
   intro _
   rw[Rat.pow_zero,Rat.pow_succ,Rat.pow_zero]
   exact⟨⟨by rw[Nat.add_zero];grind,by rw[Nat.add_zero];grind⟩,by rw[Nat.add_zero];grind,by rw[Nat.add_zero];grind⟩
  |succ i ih=>
   intro hi
   obtain⟨⟨i1,i2⟩,i3,i4⟩:=ih aa
   have e:=hr (j+i) aa
   have hqq:=hq (j+i) aa
   rw[show j+i+1=j+1+i by omega,show j+i+2=j+1+(i+1) by omega]at e
   have hX:=Rat.mul_pos (a:=P^i) (b:=η) (by have:=hpw i;grind) hη
   have hm:Ab (q (j+i)*a (j+1+i)) (Q*(P^(i+1)*η)):=hqq.mul ⟨by grind,by grind⟩
   obtain⟨m1,m2⟩:=hm
   rw[show j+(i+1)=j+1+i by omega]
   refine⟨⟨i3,i4⟩,?_⟩
   rw[Rat.pow_succ P (i+1)]
   rw[Rat.pow_succ P i]at*
   generalize P^i=X at*
   have g1:=Rat.mul_nonneg (a:=X*η) (b:=P*(P-Q-1)) (by grind) (Rat.mul_nonneg (by grind) (by grind))
   have g2:=Rat.mul_nonneg (a:=X*η) (b:=P-1) (by grind) (by grind)
   constructor<;>grind
 obtain⟨_,s1,s2⟩:=step (k-j-1) aa
 rw[show j+1+(k-j-1)=k by omega,show k-j-1+1=k-j by omega]at s1 s2
 have hle:P^(k-j)*η<=P^k*η:=by
  have e:P^k=P^(k-j)*P^j:=by rw[<-pow_add'];congr 1;omega
  rw[e]
  have g1:=Rat.mul_nonneg (a:=P^(k-j)*η) (b:=P^j-1) (Rat.mul_nonneg (by have:=hpw (k-j);grind) (by grind)) (by have:=hpw j;grind)
  grind
 rcases hl with hl|hl<;>grind
theorem aeq {a b q:Nat->Rat} {k:Nat} {η ε Q P:Rat} (hr:∀j,j+2<=k->a j=q j*a (j+1)-a (j+2)) (hq:∀j,j+2<=k->Ab (q j) Q) (hQ:0<=Q) (hP:Q+1<=P) (hη:0<η) (hl:P^k*η<=a k\/a k<=-(P^k*η)) (hε:ε<η)
  (hL:∀j,j<=k->Ab (b j-a j) ε) (hd:1<=k->∃d w:Rat,0<d/\b 0-a 0=d*(a 1+w)/\Ab w ε):Bt k a b:=by
 have big:∀j,j<=k->η<=a j\/a j<=-η->eF (a j) (b j):=fun j hj h=>by
  obtain⟨h1,h2⟩:=hL j hj
  rcases h with h|h
  ·exact .inl ⟨by grind,by grind⟩
  ·exact .inr ⟨by grind,by grind⟩
 have hPη:=Rat.mul_nonneg (a:=P-1) (b:=η) (by grind) (by grind)
 intro j hj
 rcases(show(η<=a j\/a j<=-η)\/(-η<a j/\a j<η) by grind)with h|⟨h1,h2⟩
 ·exact .inl (big j hj h)
 ·have hjk:j+1<=k:=by
   refine Decidable.byContradiction fun hn=>?_
   obtain rfl:j=k:=aa
   have hpw:1<=P^j:=by
    clear hl hj hn h1 h2 hL hr hq hd big
    induction j with
    |zero=>rw[Rat.pow_zero];decide
    |succ i ih=>rw[Rat.pow_succ];have:=Rat.mul_nonneg (a:=P^i) (b:=P-1) (by grind) (by grind);grind
   have:=Rat.mul_nonneg (a:=P^j-1) (b:=η) (by grind) (by grind)
   rcases hl with hl|hl<;>grind
  have hn:=Tp hr hq hQ hP hη hl hjk h1 h2
  have hb1:eF (a (j+1)) (b (j+1)):=big _ hjk (by rcases hn with h|h<;>grind)
  cases j with
  |zero=>
   refine .inr (.inr ⟨rfl,hjk,hb1,?_⟩)
   obtain⟨d,w,d0,e,w1,w2⟩:=hd hjk
   rcases hn with h|h
   ·have:=Rat.mul_pos (a:=d) (b:=a (0+1)+w) d0 (by grind)
    exact .inl ⟨by grind,by grind⟩
   ·have:=Rat.mul_pos (a:=d) (b:=-(a (0+1)+w)) d0 (by grind)
    exact .inr ⟨by grind,by grind⟩
  |succ i=>
   have e:=hr i aa
   obtain⟨m1,m2⟩:=(hq i aa).mul (show Ab (a (i+1)) η from⟨by grind,by grind⟩)
   have hQη:=Rat.mul_nonneg (a:=P-Q-1) (b:=η) (by grind) (by grind)
   refine .inr (.inl ⟨i,rfl,aa,big i aa ?_,hb1,?_⟩)
   ·rcases hn with h|h
    ·right;grind
    ·left;grind
   ·unfold eF
    rcases hn with h|h<;>grind
abbrev de (c:PP) (j:Nat):PP:=(bZ (ek c) j).1
abbrev cS (c:PP):Nat:=fl (ek c)
theorem nM {c:PP}:Trim (ek c).1/\Trim (ek c).2:=⟨iA,dS⟩
theorem D6 {c:PP} (tc:Trim c) (c0:0<c.1) {j:Nat} (hj:j<=cS c):0<(de c j).1:=by
 cases j with
 |zero=>exact ue tc c0
 |succ j=>
  have:=(mc (s:=ek c) nM.1 nM.2).2.2 j (by have:cS c=fl (ek c):=rfl;omega)
  exact Nat.pos_of_ne_zero this
theorem LV {c:PP} (j:Nat):Trim (de c j):=(m9 nM.1 nM.2 j).1
theorem Sa {c:PP}:(de c (cS c+1)).1=0:=(mc (s:=ek c) nM.1 nM.2).2.1
theorem OX {c:PP} (tc:Trim c) (c0:0<c.1) {j:Nat} (hj:j+1<=cS c) (t:Rat):aq (de c j) t=aq (gJ (de c j) (de c (j+1))) t*aq (de c (j+1)) t-aq (de c (j+2)) t:=by
 have h:=qi (a:=de c j) (D6 tc c0 hj) t
 have e:aq (de c (j+2)) t=((-1:Int):Rat)*aq (fe (de c j) (de c (j+1))) t:=pM
 rw[show((-1:Int):Rat)=-1 from rfl]at e
 rw[e]
 grind
theorem NV {c:PP} (tc:Trim c) (c0:0<c.1):∀i,i<=cS c->Dv (de c (cS c)) (de c (cS c-i))/\Dv (de c (cS c)) (de c (cS c-i+1))
 |0,_=>⟨.refl _,sI,fun t=>by rw[Nat.sub_zero,iF Sa,AS,Rat.mul_zero]⟩
 |i+1,hi=>by
  obtain⟨h1,h2⟩:=NV tc c0 i aa
  have e:=fun t=>OX tc c0 (c:=c) (j:=cS c-(i+1)) aa t
  rw[show cS c-(i+1)+1=cS c-i by omega,show cS c-(i+1)+2=cS c-i+1 by omega]at e
  refine⟨Dv.comb (u:=gJ (de c (cS c-(i+1))) (de c (cS c-i))) (v:=eM (-1) fJ) h1 h2 fun t=>?_,by rw[show cS c-(i+1)+1=cS c-i by omega];exact h1⟩
  rw[e,dZ,gH];grind
theorem acP {c:PP} (tc:Trim c) (c0:0<c.1):(de c (cS c)).1=1:=by
 obtain⟨h1,h2⟩:=NV tc c0 (cS c) aX
 rw[Nat.sub_self]at h1 h2
 obtain⟨u,v,h3⟩:=zB tc c0
 have h4:Dv (de c (cS c)) fJ:=Dv.comb (u:=u) (v:=v) h1 h2 fun t=>by rw[gH];exact(h3 t).symm
 have h5:=h4.len (show 0<1 by decide) Cy (LV _)
 have h6:=D6 tc c0 (Nat.le_refl (cS c))
 have h5:(de c (cS c)).1<=1:=h5
 omega
structure kn (c:PP) (s q:Nat):Prop where
 tr:Trim c
 p0:0<c.1
 k7:cS c<=7
 bd:∀j,j<=cS c->Bd (de c j) s/\(de c j).1<=7
 qu:∀j,j+1<=cS c->Bd (gJ (de c j) (de c (j+1))) q/\(gJ (de c j) (de c (j+1))).1<=7
theorem ck.sm {c:PP} (h:ck c):∀j,j<=cS c->∃B,B+1<=1176606/\Bd (bZ (ek c) j).1 B/\Bd (bZ (ek c) j).2 B/\(bZ (ek c) j).1.1<=7/\(bZ (ek c) j).2.1<(bZ (ek c) j).1.1:=fun j hj=>by
 obtain⟨f1,f2⟩:=h.free
 have hfd:Bd (bh (aW c)) 806:=f1.bd.dF aa
 have hdl:(bh (aW c)).1<=(aW c).1-1:=fU
 have hp:=f1.p0
 obtain⟨B,b1,b2,b3,b4,b5⟩:=zw (a:=aW c) (b:=bh (aW c)) iA dS f2 aa (f1.bd.more (show 800<=806 by omega)) hfd j hj
 have h3:3^(7-(bZ (aW c,bh (aW c)) j).1.1)<=3^6:=uc aa
 have h4:=Nat.mul_le_mul_left (2*(806+1)) h3
 exact⟨B,aa,b2,b3,b4,b5⟩
theorem ck.fG {c:PP} (h:ck c):kn c 1176605 9412848 where
 tr:=h.tr
 p0:=h.p0
 k7:=by
  obtain⟨f1,f2⟩:=h.free
  have:=(mc (s:=ek c) nM.1 nM.2).1
  have h2:(ek c).2.1<=(aW c).1-1:=fU
  have h3:cS c=fl (ek c):=rfl
  omega
 bd:=fun j hj=>by
  obtain⟨B,b1,b2,b3,b4,b5⟩:=h.sm j hj
  exact⟨b2.more aa,b4⟩
 qu:=fun j hj=>by
  obtain⟨B,b1,b2,b3,b4,b5⟩:=h.sm j aa
  have h0:0<(bZ (ek c) j).2.1:=D6 h.tr h.p0 hj
  have hr:=(b2.rem b3 h0 (m9 nM.1 nM.2 j).2).2.1
  have hM:(bZ (ek c) j).1.1-((bZ (ek c) j).2.1-1)<=7:=aa
  have:=Nat.mul_le_mul_right (B+1) hM
  exact⟨hr.more aa,Nat.le_trans (show cr _ _<=_ from fU) hM⟩
def mQ (s q r:Nat):Nat:=2*s+21*(r+1)+7*(q+7*(r+1)+1)
theorem E5 {a:PP} {s r:Nat} {t:Rat} (h:pZ a.1 a.2 s) (hl:a.1<=7) (ht:Ab t (T2 r)):Ab (aq a t) (T2 (s+7*(r+1))):=
 (wO ht _ h).more (jq (by have:=Nat.mul_le_mul_right (r+1) hl;omega))
theorem PB (a:Nat):∀k:Nat,T2 a^k=T2 (a*k)
 |0=>by rw[Rat.pow_zero];unfold T2;rw[Nat.mul_zero,Rat.pow_zero]
 |k+1=>by rw[Rat.pow_succ,PB a k,Nat.mul_succ,nh]
theorem kn.gp {c:PP} {s q r:Nat} (h:kn c s q) {x y:Rat} (hx:Ab x (T2 r)) (hy:Ab y (T2 r)) (hxy:x<y) (hf:(y-x)*T2 (mQ s q r)<1):
  Bt (cS c) (fun j=>aq (de c j) x) (fun j=>aq (de c j) y):=by
 obtain⟨Q,hQ⟩:∃Q,Q=T2 (q+7*(r+1)):=⟨_,rfl⟩
 obtain⟨P,hP⟩:∃P,P=T2 (q+7*(r+1)+1):=⟨_,rfl⟩
 have hQ1:1<=Q:=hQ▸rX _
 have hPQ:P=2*Q:=by rw[hP,hQ,nC]
 have hPk:P^cS c=T2 ((q+7*(r+1)+1)*cS c):=by
  rw[hP];exact PB _ _
 obtain⟨η,h1⟩:∃η:Rat,η=(P^cS c*T2 s)⁻¹:=⟨_,rfl⟩
 have hpos:0<P^cS c*T2 s:=by rw[hPk];exact Rat.mul_pos (jO _) (jO _)
 have hη:0<η:=by rw[h1];exact Rat.inv_pos.2 hpos
 have hη1:η*(P^cS c*T2 s)=1:=by rw[h1];exact Rat.inv_mul_cancel _ (by grind)
 have hd:0<y-x:=by grind
 refine aeq (q:=fun j=>aq (gJ (de c j) (de c (j+1))) x) (k:=cS c) (η:=η) (ε:=(y-x)*T2 (s+21*(r+1))) (Q:=Q) (P:=P) (fun j hj=>OX h.tr h.p0 aa x) (fun j hj=>?_) (by grind) (by grind) hη ?_ ?_ (fun j hj=>?_) (fun hk=>?_)
 ·obtain⟨b1,b2⟩:=h.qu j aa
  rw[hQ];exact E5 (cW.cf b1) b2 hx
 ·have hl:=acP h.tr h.p0
  obtain⟨⟨D,d1,d2,d3⟩,_⟩:=h.bd (cS c) aX
  have e:aq (de c (cS c)) x=(de c (cS c)).2 0:=by
   show ev (de c (cS c)).1 (de c (cS c)).2 x=_
   rw[hl]
   show 0+(de c (cS c)).2 0*x^0=_
   rw[Rat.pow_zero];grind
  have hne:(de c (cS c)).2 0≠0:=by
   rcases LV (c:=c) (cS c)with h0|h0
   ·omega
   ·rw[hl]at h0;exact h0
  have hlow:=(d3 0 aa).low d1 d2 hne
  have hTs:=jO s
  have e2:P^cS c*η*T2 s=1:=by grind
  show P^cS c*η<=aq (de c (cS c)) x\/aq (de c (cS c)) x<=-(P^cS c*η)
  rw[e]
  generalize (de c (cS c)).2 0=a at*
  generalize P^cS c*η=w at*
  rcases hlow with hlow|hlow
  ·left
   refine Decidable.byContradiction fun hn=>?_
   have:=Rat.mul_pos (a:=w-a) (b:=T2 s) (by grind) hTs
   grind
  ·right
   refine Decidable.byContradiction fun hn=>?_
   have:=Rat.mul_pos (a:=w+a) (b:=T2 s) (by grind) hTs
   grind
 ·refine Decidable.byContradiction fun hn=>?_
  have g1:=Rat.mul_nonneg (a:=(y-x)*T2 (s+21*(r+1))-η) (b:=P^cS c*T2 s) (by grind) (by grind)
  have g2:(y-x)*T2 (s+21*(r+1))*(P^cS c*T2 s)<=(y-x)*T2 (mQ s q r):=by
   rw[hPk,<-nh,Rat.mul_assoc,<-nh]
   have hle:T2 (s+21*(r+1)+((q+7*(r+1)+1)*cS c+s))<=T2 (mQ s q r):=jq (by
    have:=Nat.mul_le_mul_left (q+7*(r+1)+1) h.k7
    unfold mQ;omega)
   exact Rat.mul_le_mul_of_nonneg_left hle (by grind)
  grind
 ·obtain⟨b1,b2⟩:=h.bd j hj
  obtain⟨w,e,hw⟩:=AZ hx hy (de c j).1 (cW.cf b1)
  show Ab (ev (de c j).1 (de c j).2 y-ev (de c j).1 (de c j).2 x) _
  rw[e]
  refine Ab.mul ⟨by grind,by grind⟩ (hw.more (jq ?_))
  have:=Nat.mul_le_mul_right (r+1) b2
  omega
 ·obtain⟨b1,b2⟩:=h.bd 0 (Nat.zero_le _)
  obtain⟨w,e,hw⟩:=Tt (a:=de c 0) hx hy (cW.cf b1)
  refine⟨y-x,(y-x)*w,hd,?_,Ab.mul ⟨by grind,by grind⟩ (hw.more (jq ?_))⟩
  ·show aq (de c 0) y-aq (de c 0) x=(y-x)*(aq (de c 1) x+(y-x)*w)
   rw[e]
   have:aq (de c 1) x=cV (de c 0) x:=fF (a:=aW c)
   rw[this]
  ·have:=Nat.mul_le_mul_right (r+1) b2
   omega
theorem Aq (x:Rat):∃r:Nat,Ab x (T2 r):=by
 refine⟨x.num.natAbs,bY.ab (D:=(x.den:Int)) ⟨x.num,?_,Nat.le_of_lt Nat.lt_two_pow_self⟩ (by have:=x.den_pos;omega)⟩
 have hd:((x.den:Int):Rat)≠0:=nE (D:=(x.den:Int)) (by have:=x.den_pos;omega)
 have:=Rat.num_divInt_den x
 rw[Rat.divInt_eq_div]at this
 have h2:=Rat.div_mul_cancel (a:=(x.num:Rat)) hd
 rw[this]at h2
 exact h2.symm
theorem OT (k:Nat->Rat):∀n,∃s,pZ n k s
 |0=>⟨0,fun i hi=>absurd hi (Nat.not_lt_zero i)⟩
 |n+1=>by
  obtain⟨s,h⟩:=OT k n
  obtain⟨r,h'⟩:=Aq (k n)
  refine⟨s+r,fun i hi=>?_⟩
  by_cases hn:i=n
  ·subst hn;exact h'.more (jq aa)
  ·exact(h i aa).more (jq aa)
theorem vO (a:PP) (r:Nat):∃e:Nat,(∀t,Ab t (T2 r)->Ab (aq a t) (T2 e))/\∀x y,Ab x (T2 r)->Ab y (T2 r)->∃q,aq a y-aq a x=(y-x)*q/\Ab q (T2 e):=by
 obtain⟨s,h⟩:=OT a.2 a.1
 refine⟨s+2*(a.1*(r+1)),fun t ht=>(wO ht a.1 h).more (jq aa),fun x y hx hy=>AZ hx hy a.1 h⟩
theorem YJ (q:Rat):∃n:Nat,q<((n:Int):Rat):=by
 obtain⟨r,_,h⟩:=Aq q
 refine⟨2^r+1,?_⟩
 rw[wg]at h
 have:(((2^r:Nat):Int):Rat)+1=(((2^r+1:Nat):Int):Rat):=by rw[Int.natCast_add,Rat.intCast_add];rfl
 rw[<-this];grind
theorem W8 {d N T:Rat} (hd:0<d) (hN:1<=N) (hT:0<T) (h:d*T<N+1):∃t,0<t/\t<d/\t*T<1/\(d-t)*T<N:=by
 have ht:(N+1)*(N+1)⁻¹=1:=Rat.mul_inv_cancel _ (by grind)
 have hip:0<(N+1)⁻¹:=Rat.inv_pos.2 (by grind)
 generalize (N+1)⁻¹=w at*
 have e1:d*((N+1)*w)=d:=by rw[ht,Rat.mul_one]
 have e2:N*((N+1)*w)=N:=by rw[ht,Rat.mul_one]
 have e3:d*T*((N+1)*w)=d*T:=by rw[ht,Rat.mul_one]
 have hNw:0<N*w:=Rat.mul_pos (by grind) hip
 have g1:=Rat.mul_pos hd hip
 have g2:=Rat.mul_pos hd hNw
 have g3:=Rat.mul_pos (a:=N+1-d*T) (b:=w) (by grind) hip
 have g4:=Rat.mul_pos (a:=N+1-d*T) (b:=N*w) (by grind) hNw
 exact⟨d*w,g1,by grind,by grind,by grind⟩
theorem Eo {P:Rat->Rat->Prop} {E:Nat} {X Y:Rat} (base:∀x y,X<=x->y<=Y->x<y->(y-x)*T2 E<1->P x y) (step:∀x m y,X<=x->y<=Y->x<m->m<y->P x m->P m y->P x y) {x y:Rat} (hX:X<=x) (hY:y<=Y) (hxy:x<y):P x y:=by
 have key:∀(n:Nat) (x:Rat),X<=x->x<y->(y-x)*T2 E<(((n+1:Nat):Int):Rat)->P x y:=by
  intro n
  induction n with
  |zero=>intro x h1 h2 h3;exact base x y h1 hY h2 h3
  |succ n ih=>
   intro x h1 h2 h3
   have eN:(((n+1+1:Nat):Int):Rat)=(((n+1:Nat):Int):Rat)+1:=by rw[Int.natCast_add (n+1) 1,Rat.intCast_add];rfl
   rw[eN]at h3
   have hd:0<y-x:=by clear base step ih;grind
   obtain⟨t,t1,t2,t3,t4⟩:=W8 hd (lQ (a:=1) aa) (jO E) h3
   have a1:x<x+t/\x+t<y/\x+t-x=t/\y-(x+t)=y-x-t/\x+t<=Y/\X<=x+t:=by
    clear base step ih t3 t4 h3 eN
    exact⟨by grind,by grind,by grind,by grind,by grind,by grind⟩
   exact step x (x+t) y h1 hY a1.1 a1.2.1 (base _ _ h1 a1.2.2.2.2.1 a1.1 (by rw[a1.2.2.1];exact t3)) (ih _ a1.2.2.2.2.2 a1.2.1 (by rw[a1.2.2.2.1];exact t4))
 obtain⟨n,hn⟩:=YJ ((y-x)*T2 E)
 refine key n x hX hxy ?_
 have:(((n+1:Nat):Int):Rat)=((n:Int):Rat)+1:=by rw[Int.natCast_add,Rat.intCast_add];rfl
 rw[this]
 clear base step key
 grind
def oC (c:PP) (x:Rat):Nat:=vr (fun j=>aq (de c j) x) (cS c+1)
def bt (c:PP) (x y:Rat):Int:=if x>=y then 0 else(oC c x:Int)-oC c y-(if aq (aW c) y=0 then 1 else 0)
def rC (c:PP) (x:Rat):Int:=rS fun j=>aq (de c j) x
theorem od {c:PP} {x y:Rat} (h:x<y):bt c x y=(oC c x:Int)-oC c y-(if aq (aW c) y=0 then 1 else 0):=if_neg (by grind)
def Rg (r:Nat) (x y:Rat):Prop:=-(T2 r)<=x/\y<=T2 r/\x<y
theorem Rg.ab {r:Nat} {x y:Rat} (h:Rg r x y):Ab x (T2 r)/\Ab y (T2 r):=by
 obtain⟨h1,h2,h3⟩:=h
 exact⟨⟨h1,by grind⟩,by grind,h2⟩
theorem FR {x y:Rat} (h:x<y):∃r,Rg r x y:=by
 obtain⟨r,h1,_⟩:=Aq x
 obtain⟨r',_,h2⟩:=Aq y
 have a:=jq (show r<=r+r' by omega)
 have b:=jq (show r'<=r+r' by omega)
 exact⟨r+r',by grind,by grind,h⟩
theorem kn.near {c:PP} {s q r:Nat} (h:kn c s q) {x y:Rat} (hr:Rg r x y) (hf:(y-x)*T2 (mQ s q r)<1):
  (oC c x=oC c y/\aq (aW c) y≠0/\(aq (aW c) x=0\/eF (aq (aW c) x) (aq (aW c) y))/\rC c y=rC c x/\rC c x≠0)\/(oC c x=oC c y+1/\aq (aW c) x≠0/\¬eF (aq (aW c) x) (aq (aW c) y)/\rC c y=-rC c x/\rC c x≠0):=
 afR (h.gp hr.ab.1 hr.ab.2 hr.2.2 hf)
theorem kn.short {c:PP} {s q r:Nat} (h:kn c s q) {x y:Rat} (hr:Rg r x y) (hf:(y-x)*T2 (mQ s q r)<1):bt c x y=0\/bt c x y=1:=by
 rw[od hr.2.2]
 rcases h.near hr hf with⟨h1,h2,_⟩|⟨h1,_⟩
 ·rw[if_neg h2,h1];omega
 ·rw[h1];split<;>omega
theorem oI {c:PP} {x m y:Rat} (h1:x<m) (h2:m<y):bt c x y=bt c x m+(if aq (aW c) m=0 then 1 else 0)+bt c m y:=by
 rw[od h1,od h2,od (show x<y by grind)];omega
theorem kn.oz {c:PP} {s q:Nat} (h:kn c s q) (x y:Rat):0<=bt c x y:=by
 by_cases hxy:x<y
 ·obtain⟨r,hr⟩:=FR hxy
  refine Eo (P:=fun x y=>0<=bt c x y) (E:=mQ s q r) (X:=-(T2 r)) (Y:=T2 r) (fun x y h1 h2 h3 h4=>?_) (fun x m y _ _ h1 h2 p1 p2=>?_) hr.1 hr.2.1 hxy
  ·rcases h.short ⟨h1,h2,h3⟩ h4 with h|h<;>rw[h]<;>decide
  ·rw[oI h1 h2];split<;>omega
 ·rw[show bt c x y=0 from if_pos (by grind)];decide
theorem kn.root {c:PP} {s q:Nat} (h:kn c s q) {x m y:Rat} (h1:x<m) (h2:m<y) (hm:aq (aW c) m=0):1<=bt c x y:=by
 have a:=h.oz x m
 have b:=h.oz m y
 rw[oI h1 h2,if_pos hm];omega
theorem F8 {a b w h:Rat} (hw:Ab w h) (e:b-a=w) (hs:¬eF a b) (ha:a≠0) (hb:b≠0):Ab a h/\Ab b h:=by
 obtain⟨w1,w2⟩:=hw
 unfold eF at hs
 rcases(show a<0\/0<a by grind)with h1|h1<;>rcases(show b<0\/0<b by grind)with h2|h2
 ·exact absurd (.inr ⟨h1,h2⟩) hs
 ·exact⟨⟨by grind,by grind⟩,by grind,by grind⟩
 ·exact⟨⟨by grind,by grind⟩,by grind,by grind⟩
 ·exact absurd (.inl ⟨h1,h2⟩) hs
theorem zn {c d:PP} {s q s' q':Nat} (hc:kn c s q) (hd:kn d s' q') (hdv:Dv (aW d) (aW c)) (x y:Rat):bt d x y<=bt c x y:=by
 by_cases hxy:x<y
 ·obtain⟨r,hr⟩:=FR hxy
  obtain⟨H,hH⟩:=hdv
  obtain⟨u,v,huv⟩:=zB hc.tr hc.p0
  obtain⟨e1,u1,_⟩:=vO u r
  obtain⟨e2,v1,_⟩:=vO v r
  obtain⟨e3,_,g1⟩:=vO (aW d) r
  obtain⟨e4,_,k1⟩:=vO H r
  obtain⟨e5,g2,_⟩:=vO (bh (aW d)) r
  obtain⟨e6,k2,_⟩:=vO (bh H) r
  obtain⟨e,he⟩:∃e,e=e1+e2+e3+e4+e5+e6:=⟨_,rfl⟩
  have up:∀{z:Rat} {m:Nat},Ab z (T2 m)->m<=e->Ab z (T2 e):=fun h hm=>h.more (jq hm)
  -- both factors are small nowhere
  have no:∀z w:Rat,Ab z (T2 r)->0<=w->w*T2 (3*e+2)<1->Ab (aq (aW d) z) (w*T2 e)->Ab (aq H z) (w*T2 e)->False:=fun z w hz hw hw1 a1 a2=>by
   have b1:=(up (u1 z hz) aa).mul (a1.mul (a2.more (N:=T2 e) ?_))
   have b2:=(up (v1 z hz) aa).mul (((up (g2 z hz) aa).mul a2).add (a1.mul (up (k2 z hz) aa)))
   ·have h1:=huv z
    rw[hH,fF,ku hH,<-fF,<-fF]at h1
    obtain⟨l1,l2⟩:=b1
    obtain⟨l3,l4⟩:=b2
    have t3:T2 (3*e+2)=4*(T2 e*T2 e*T2 e):=by
     rw[nC,nC,<-nh,<-nh,show e+e+e=3*e by omega];grind
    rw[t3]at hw1
    have p:=Rat.mul_nonneg hw (Rat.mul_nonneg (Rat.mul_nonneg (Rat.le_of_lt (jO e)) (Rat.le_of_lt (jO e))) (Rat.le_of_lt (jO e)))
    generalize T2 e=T at*
    have m1:T*(w*T*T)=w*(T*T*T):=by grind
    have m2:T*(T*(w*T)+w*T*T)=2*(w*(T*T*T)):=by grind
    rw[m1]at l1 l2
    rw[m2]at l3 l4
    grind
   ·have t1:=rX (3*e+2)
    have t2:=jO e
    have:=Rat.mul_nonneg (a:=w) (b:=T2 (3*e+2)-1) hw (by grind)
    have:=Rat.mul_nonneg (a:=1-w) (b:=T2 e) (by grind) (by grind)
    grind
  obtain⟨E,hE⟩:∃E,E=mQ s q r+mQ s' q' r+(3*e+2):=⟨_,rfl⟩
  have le:∀{w:Rat} {m:Nat},0<=w->w*T2 E<1->m<=E->w*T2 m<1:=fun {w m} hw h hm=>by
   have:=Rat.mul_le_mul_of_nonneg_left (c:=w) (jq hm) hw
   grind
  refine Eo (P:=fun x y=>bt d x y<=bt c x y) (E:=E) (X:=-(T2 r)) (Y:=T2 r) (fun x y h1 h2 h3 h4=>?_) (fun x m y _ _ h1 h2 p1 p2=>?_) hr.1 hr.2.1 hxy
  ·have hw:0<=y-x:=by grind
   have R:Rg r x y:=⟨h1,h2,h3⟩
   have c1:=hc.near R (le hw h4 aa)
   have d1:=hd.near R (le hw h4 aa)
   have c2:=hc.oz x y
   have hno:=fun z hz=>no z (y-x) hz hw (le hw h4 aa)
   refine Decidable.byContradiction fun hn=>?_
   rw[od h3,od h3]at hn
   rw[od h3]at c2
   rcases d1 with⟨e1,n1,_⟩|⟨e1,n1,n2,_⟩
   ·rw[if_neg n1]at hn;omega
   ·have gy:aq (aW d) y≠0:=fun h0=>by rw[if_pos h0]at hn;omega
    rw[if_neg gy]at hn
    obtain⟨w1,q1,q2⟩:=g1 x y R.ab.1 R.ab.2
    obtain⟨w2,q3,q4⟩:=k1 x y R.ab.1 R.ab.2
    have self:Ab (y-x) (y-x):=⟨by grind,by grind⟩
    have zz:0<=(y-x)*T2 e:=Rat.mul_nonneg hw (Rat.le_of_lt (jO e))
    obtain⟨o1,o2⟩:=F8 (self.mul (up q2 aa)) q1 n2 n1 gy
    rcases c1 with⟨e2,m1,m2,_⟩|⟨e2,m1,m2,_⟩
    ·rw[if_neg m1]at hn c2
     rcases m2 with m2|m2
     ·have hx0:aq H x=0:=by rw[hH]at m2;exact(Rat.mul_eq_zero.1 m2).resolve_left n1
      exact hno x R.ab.1 o1 (by rw[hx0];exact Ab.zero zz)
     ·have fx:aq (aW c) x≠0:=by rcases m2 with⟨k,_⟩|⟨k,_⟩<;>grind
      have hx0:aq H x≠0:=fun h0=>fx (by rw[hH,h0,Rat.mul_zero])
      have hy0:aq H y≠0:=fun h0=>m1 (by rw[hH,h0,Rat.mul_zero])
      have hs:¬eF (aq H x) (aq H y):=fun hs=>by
       rw[hH,hH]at m2
       have:∀a b:Rat,0<a->0<b->0<a*b:=fun a b h1 h2=>Rat.mul_pos h1 h2
       unfold eF at n2 m2 hs
       rcases(show aq (aW d) x<0\/0<aq (aW d) x by grind)with s1|s1<;>rcases(show aq (aW d) y<0\/0<aq (aW d) y by grind)with s2|s2
       ·exact n2 (.inr ⟨s1,s2⟩)
       ·rcases hs with⟨s3,s4⟩|⟨s3,s4⟩
        ·have p1 := this _ _ (show 0 < -aq (aW d) x by grind) s3
         have p2:=this _ _ s2 s4
         grind
        ·have p1 := this _ _ (show 0 < -aq (aW d) x by grind) (show 0 < -aq H x by grind)
         have p2 := this _ _ s2 (show 0 < -aq H y by grind)
         grind
       ·rcases hs with⟨s3,s4⟩|⟨s3,s4⟩
        ·have p1:=this _ _ s1 s3
         have p2 := this _ _ (show 0 < -aq (aW d) y by grind) s4
         grind
        ·have p1 := this _ _ s1 (show 0 < -aq H x by grind)
         have p2 := this _ _ (show 0 < -aq (aW d) y by grind) (show 0 < -aq H y by grind)
         grind
       ·exact n2 (.inl ⟨s1,s2⟩)
      obtain⟨o3,o4⟩:=F8 (self.mul (up q4 aa)) q3 hs hx0 hy0
      exact hno x R.ab.1 o1 o3
    ·have fy:aq (aW c) y=0:=Decidable.byContradiction fun h0=>by rw[if_neg h0]at hn;omega
     have hy0:aq H y=0:=by rw[hH]at fy;exact(Rat.mul_eq_zero.1 fy).resolve_left gy
     exact hno y R.ab.2 o2 (by rw[hy0];exact Ab.zero zz)
  ·rw[oI h1 h2,oI h1 h2]
   have:aq (aW d) m=0->aq (aW c) m=0:=fun h=>by rw[hH,h,Rat.zero_mul]
   by_cases h0:aq (aW d) m=0
   ·rw[if_pos h0,if_pos (this h0)];omega
   ·rw[if_neg h0];split<;>omega
 ·rw[show bt d x y=0 from if_pos (by grind),show bt c x y=0 from if_pos (by grind)];exact Int.le_refl _
theorem gm.mul {a b c d:PP} (h:gm a b) (h':gm a c) (e:∀t,aq d t=aq b t*aq c t):gm a d:=by
 obtain⟨u,v,h⟩:=h
 obtain⟨w,z,h'⟩:=h'
 refine⟨gE u (bP v (bP b w)),bP v z,fun t=>?_⟩
 have h1:=h t
 have h2:=h' t
 rw[iG,bQ,bQ,bQ,e]
 have:aq u t*aq a t+aq v t*aq b t*(aq w t*aq a t+aq z t*aq c t)=1:=by rw[h2];grind
 grind
theorem EJ {c p:PP} (tc:Trim c) (c0:0<c.1) (tp:Trim p) (p0:0<p.1) (sp:gm p (bh p)) (hd:Dv p c):Dv p (aW c):=by
 obtain⟨G,e,hG,tG,h1,h2,h3,_⟩:=ng tc c0
 have tF:Trim (aW c):=iA
 generalize aW c=F at*
 obtain⟨x,F1,e1,e2,k1⟩:=Cq tp tF p0
 have dp:Dv (bL p F) F:=(l9 tp tF).2
 have d0:=mP (b:=F) p0
 generalize bL p F=d at*
 obtain⟨u,v,huv⟩:=sp
 have hp':∀t,aq (bh p) t=cV d t*aq x t+aq d t*cV x t:=fun t=>by rw[fF];exact ku e1 t
 -- x has nothing in common with d, with F, with its own derivative
 have k2:gm x d:=⟨gE (bP u d) (bP v (bh d)),bP v (bh x),fun t=>by
  have:=huv t
  rw[hp',e1]at this
  rw[iG,bQ,bQ,bQ,fF,fF];grind⟩
 have k3:gm x (bh x):=⟨gE (bP u d) (bP v (bh d)),bP v d,fun t=>by
  have:=huv t
  rw[hp',e1]at this
  rw[iG,bQ,bQ,bQ,fF,fF];grind⟩
 have k4:gm x F:=k2.mul k1 e2
 have xc:Dv x c:=by
  obtain⟨w,hw⟩:=hd
  exact⟨bP d w,fun t=>by rw[hw,e1,bQ];grind⟩
 have x0:0<(b9 x).1:=by
  rcases Nat.eq_zero_or_pos (b9 x).1 with h|h
  ·have:=qY tp fun t=>by rw[e1,<-dP (a:=x),iF h,Rat.mul_zero]
   omega
  ·exact h
 rcases Nat.lt_or_ge 1 (b9 x).1 with hx1|hx1
 ·refine(Dp hG tG (eZ (a:=x)) hx1 fun k=>?_).elim
  induction k with
  |zero=>exact⟨G,fun t=>by rw[Rat.pow_zero,Rat.one_mul]⟩
  |succ k ih=>
   obtain⟨m,hm⟩:=ih
   have hm:∀t,aq G t=aq x t^k*aq m t:=fun t=>by rw[hm,dP]
   have key:Dv x m:=by
    rcases Nat.eq_zero_or_pos k with hk|hk
    ·subst hk
     obtain⟨w,hw⟩:=xc
     refine k4.dv (w:=w) fun t=>?_
     have:=hm t
     rw[Rat.pow_zero,Rat.one_mul]at this
     rw[<-hw,h1,this,Rat.mul_comm]
    ·have a1:∀t,cV c t=cV G t*aq F t+aq G t*cV F t:=fun t=>ku h1 t
     have a2:∀t,cV G t=cV (fz x k) t*aq m t+aq (fz x k) t*cV m t:=fun t=>ku (fun t=>by rw[hm,og]) t
     have kk:=Ah x0 (eZ (a:=x)) k (a:=eM ((k:Int):Rat) (bP (bh x) (bP m F))) (b:=bP x (gE (bP e m) (eM (-1) (gE (bP (bh m) F) (bP m (bh F)))))) fun t=>by
      rw[dP,dZ,bQ,bQ,bQ,iG,bQ,dZ,iG,bQ,bQ,fF,fF,fF]
      have a1:=a1 t
      have a2:=a2 t
      have a4:=vu (d:=x) (t:=t) k
      have a5:=h2 t
      have a6:=hm t
      rw[og]at a2
      generalize cV (fz x k) t=P at*
      generalize aq x t^k=D at*
      generalize ((k:Int):Rat)=K at*
      generalize aq x t=dd at*
      generalize cV x t=d' at*
      generalize aq F t=ff at*
      generalize cV F t=f' at*
      generalize aq m t=mm at*
      generalize cV m t=m' at*
      generalize aq e t=ee at*
      rw[a5,a6,a2]at a1
      calc D*(K*(d'*(mm*ff)))=mm*ff*(K*(d'*D)):=by grind
       _=mm*ff*(dd*P):=by rw[a4]
       _=dd*(P*mm*ff):=by grind
       _=dd*(D*mm*ee-D*m'*ff-D*mm*f'):=by rw[a1];grind
       _=_:=by grind
     have hk0:((k:Int):Rat)≠0:=nE aa
     have hi:((k:Int):Rat)⁻¹*((k:Int):Rat)=1:=Rat.inv_mul_cancel _ hk0
     obtain⟨w1,hw1⟩:=k3.dv (c:=bP m F) (w:=eM ((k:Int):Rat)⁻¹ (gE (bP e m) (eM (-1) (gE (bP (bh m) F) (bP m (bh F)))))) fun t=>by
      have:=kk t
      rw[dZ,bQ,bQ,bQ]at this
      rw[dZ,bQ]
      generalize ((k:Int):Rat)=K at*
      generalize K⁻¹=L at*
      generalize aq (gE (bP e m) (eM (-1) (gE (bP (bh m) F) (bP m (bh F))))) t=y at*
      have h5:aq (bh x) t*(aq m t*aq F t)=L*(K*(aq (bh x) t*(aq m t*aq F t))):=by rw[<-Rat.mul_assoc L K,hi,Rat.one_mul]
      rw[h5,this];grind
     exact k4.dv (w:=w1) fun t=>by rw[<-hw1,bQ,Rat.mul_comm]
   obtain⟨w,hw⟩:=key
   exact⟨w,fun t=>by rw[hm,hw,dP,Rat.pow_succ];grind⟩
 ·-- x is a number
  obtain⟨w,hw⟩:=dp
  have ex:∀t,aq x t=x.2 0:=fun t=>by
   rw[<-dP]
   show ev (b9 x).1 x.2 t=_
   rw[show(b9 x).1=1 by omega]
   show 0+x.2 0*t^0=_
   rw[Rat.pow_zero];grind
  have hx:x.2 0≠0:=fun h0=>by
   have:=qY tp fun t=>by rw[e1,ex,h0,Rat.mul_zero]
   omega
  have hi:(x.2 0)⁻¹*x.2 0=1:=Rat.inv_mul_cancel _ hx
  refine⟨eM (x.2 0)⁻¹ w,fun t=>?_⟩
  rw[hw,e1,ex,dZ]
  generalize (x.2 0)⁻¹=L at*
  grind
theorem yJ {c g:PP} (tc:Trim c) (c0:0<c.1) (tg:Trim g) (g0:0<g.1) (h:Dv g c):Dv (aW g) (aW c):=by
 obtain⟨G,e,hG,tG,h1,_⟩:=ng tg g0
 exact EJ tc c0 iA (ue tg g0) (zB tg g0) (Dv.trans ⟨G,fun t=>by rw[h1,Rat.mul_comm]⟩ h)
theorem M5 (a:Nat->Rat):∀n,vr a n<=n
 |0=>aX
 |n+1=>by
  have:=M5 a n
  unfold vr at*
  rw[l6]
  dsimp only
  split<;>omega
theorem RT {c:PP} {s q:Nat} (h:kn c s q) (x y:Rat):bt c x y<=8:=by
 by_cases hxy:x<y
 ·rw[od hxy]
  have h1:oC c x<=cS c+1:=M5 _ _
  have h2:=h.k7
  split<;>omega
 ·rw[show bt c x y=0 from if_pos (by grind)];decide
end Go.Am
namespace Go.Am.B
open Go Go.Am.N AV af au IntKind Proofs.Tryz
theorem AY {c:PP} (h:ck c):BK c/\Gu c:=by
 have hW:=dc
 have hl:=h.len
 have h0:=h.p0
 obtain⟨f1,f2⟩:=h.free
 have g1:=h.gcd
 have b1:Bd c 806:=h.bd.more aa
 have b2:Bd (bh c) 806:=h.bd.dF aa
 have hd:s7 c (bL c (bh c)):=wX (M:=13) h.bd g1.bd g1.p0 g1.tr aa aa
 have hf:dy (aW c).1 (aW c).2:=ke f1.bd aa
 have hder:dy (c.1-1) (dF c.2):=ke (zg h.bd aa) aa
 have h13:2*((13+1)*(2*(806+1)*3^(13-1)))+2<=ag:=by rw[hW];decide
 have hdl:(bh c).1<=13:=Nat.le_trans E2 aa
 refine⟨⟨aa,h.tr,hder,fun _=>⟨wB h.tr dS hl hdl aa b1 b2 h13,hd,hf⟩⟩,⟨aa,aa,h.tr,hder,fun _=>⟨⟨ke (b1.cT h.tr) aa,ke (b2.cT dS) aa,wB (oo h.tr) (oo dS) hl hdl aa (b1.cT h.tr) (b2.cT dS) h13⟩,hd,hf⟩⟩⟩
theorem Md {c:PP} (h:ck c):x6 (ek c):=fun j hj=>by
 have hW:=dc
 obtain⟨B,b1,b2,b3,b4,b5⟩:=h.sm j (by have:cS c=fl (ek c):=rfl;omega)
 have ht:=m9 (s:=ek c) iA dS j
 have hn:=(mc (s:=ek c) iA dS).2.2 j hj
 refine⟨wX (M:=7) b2 b3 aa ht.2 aa aa,?_⟩
 exact ke ((B5 (M:=7) b2 b3 aa ht.2 aa).1.neg) aa
theorem qH {c:PP} (h:ck c):jK c/\vm c:=by
 have hW:=dc
 obtain⟨f1,f2⟩:=h.free
 have hder:dy ((aW c).1-1) (dF (aW c).2):=ke (zg f1.bd aa) aa
 exact⟨⟨(AY h).1,hder,Md h⟩,⟨(AY h).2,hder,Md h⟩⟩
theorem wj {c:PP} (h:ck c):aV c<=8:=by
 have:cS c<=7:=h.fG.k7
 show cS c+1<=8
 omega
theorem VD {c:PP} (h:ck c) {i:Nat} (hi:i<aV c):Bd (aS c i) 1176605/\(aS c i).1<=7:=h.fG.bd i (by have:aV c=cS c+1:=rfl;omega)
theorem DC {c:PP} (h:ck c) {τ:Nat} {T:Int} {t:Rat} (ht:bY T τ t) (hT:T.natAbs<=2^τ) (hT0:T≠0) (hs:τ<=2^31):cJ (aV c) (aS c) t:=fun i hi=>by
 have hW:=dc
 obtain⟨b1,b2⟩:=VD h hi
 exact⟨aa,KG b1 ht hT hT0 b2 aa⟩
theorem Lc {c:PP} (h:ck c):z7 c:=⟨(AY h).1.2.2.1,((AY h).1.2.2.2 (by have:=h.p0;omega)).1⟩
theorem kU {c:PP} {x y:Rat}:fR (aV c) (aS c) x y=bt c x y:=by
 have e:∀t i,dR (aS c) t i=bR (aq (de c i) t):=fun t i=>by
  show bR (cC (de c i) t)=_
  rw[jw];rfl
 have e2:cC (aS c 0) y=aq (aW c) y:=jw
 unfold fR bt oC vr
 rw[e2,show dR (aS c) x=fun i=>bR (aq (de c i) x)from funext (e x),show dR (aS c) y=fun i=>bR (aq (de c i) y)from funext (e y)]
 rfl
def cj:Nat:=68243226
theorem nD:cj=68243226:=rfl
theorem Xd:mQ 1176605 9412848 0=68243223:=by decide
def Dy (z:Rat):Prop:=∃j,j<=cj/\bY ((2^j:Nat):Int) j z
theorem Dy.ch {c:PP} (h:ck c) {z:Rat} (hz:Dy z):cJ (aV c) (aS c) z:=by
 obtain⟨j,h1,h2⟩:=hz
 have hI:=nD
 exact DC h h2 (by rw[Int.natAbs_natCast];exact Nat.le_refl _) (by have:=Nat.pow_pos (n:=j) (show 0<2 by decide);omega) aa
theorem Hx {j:Nat} {x y:Rat} (hx:bY ((2^j:Nat):Int) j x) (hy:bY ((2^j:Nat):Int) j y):bY ((2^(j+1):Nat):Int) (j+1) (bE x y):=by
 obtain⟨z,h1,h2⟩:=hx.add hy
 refine⟨z,?_,h2⟩
 rw[h1,Nat.pow_succ,Int.natCast_mul,Rat.intCast_mul]
 unfold bE
 generalize (((2^j:Nat):Int):Rat)=D
 have:(((2:Nat):Int):Rat)=2:=rfl
 rw[this];grind
theorem Ks {j:Nat} {x:Rat} (hx:bY ((2^j:Nat):Int) j x):bY ((2^(j+1):Nat):Int) (j+1) x:=by
 have:=hx.up (E:=2) (e:=1) (by decide)
 rw[Nat.pow_succ,Int.natCast_mul]
 exact this
theorem qJ {x y:Rat} (h:x<y):x<bE x y/\bE x y<y/\bE x y-x=(y-x)*(1/2)/\y-bE x y=(y-x)*(1/2):=by
 unfold bE
 exact⟨by grind,by grind,by grind,by grind⟩
theorem uu {j:Nat} {x:Rat} (hj:j<=cj) (hx:bY ((2^j:Nat):Int) j x):Dy x:=⟨j,hj,hx⟩
structure jJ (j:Nat) (x y:Rat):Prop where
 nx:bY ((2^j:Nat):Int) j x
 ny:bY ((2^j:Nat):Int) j y
 w:(y-x)*T2 j=1
 lo:0<=x
 hi:y<=1
theorem jJ.lt {j:Nat} {x y:Rat} (h:jJ j x y):x<y:=by
 have h1:=jO j
 have h2:=h.w
 refine Decidable.byContradiction fun hn=>?_
 have:=Rat.mul_nonneg (a:=x-y) (b:=T2 j) (by grind) (by grind)
 grind
theorem jJ.Nv {j:Nat} {x y:Rat} (h:jJ j x y):jJ (j+1) x (bE x y)/\jJ (j+1) (bE x y) y:=by
 obtain⟨m1,m2,m3,m4⟩:=qJ h.lt
 have hw:=h.w
 have h1:=h.lo
 have h2:=h.hi
 exact⟨⟨Ks h.nx,Hx h.nx h.ny,by rw[m3,nC];grind,h1,by grind⟩,⟨Hx h.nx h.ny,Ks h.ny,by rw[m4,nC];grind,by grind,h2⟩⟩
theorem jJ.zero:jJ 0 0 1 where
 nx:=.zero
 ny:=⟨1,by decide+kernel,aX⟩
 w:=by unfold T2;rw[Rat.pow_zero];decide+kernel
 lo:=by decide
 hi:=by decide
theorem jJ.T7 {c:PP} (hc:ck c) {j:Nat} {x y:Rat} (h:jJ j x y) (hj:cj-1<=j):bt c x y=0\/bt c x y=1:=by
 have hD:=nD
 have hE:=Xd
 have hw:=h.w
 have hlt:=h.lt
 have t0:T2 0=1:=by unfold T2;rw[Rat.pow_zero]
 refine hc.fG.short (r:=0) ⟨by rw[t0];have:=h.lo;grind,by rw[t0];exact h.hi,hlt⟩ ?_
 have hle:T2 (mQ 1176605 9412848 0+1)<=T2 j:=jq (by rw[hE];omega)
 rw[nC]at hle
 have:=Rat.mul_le_mul_of_nonneg_left (c:=y-x) hle (by grind)
 grind
theorem zc {c:PP} (hc:ck c):∀e j x y,j+e=cj->1<=e->jJ j x y->j9 (aV c) (aS c) e x y
 |0,_,_,_,_,h,_=>absurd h (by decide)
 |e+1,j,x,y,hj,_,h=>by
  refine⟨(uu aa h.nx).ch hc,(uu aa h.ny).ch hc,fun h0 h1=>?_⟩
  rw[kU]at h0 h1
  rcases Nat.eq_zero_or_pos e with he|he
  ·rcases h.T7 hc aa with h2|h2
   ·exact absurd h2 h0
   ·exact absurd h2 h1
  ·obtain⟨a,b⟩:=h.Nv
   have hD:=nD
   have hW:=dc
   exact⟨(a.ny.sz (by have:=Nat.pow_pos (n:=j+1) (show 0<2 by decide);omega) (e:=j+1) (by rw[Int.natAbs_natCast];exact Nat.le_refl _)).more aa,zc hc e (j+1) _ _ aa he a,zc hc e (j+1) _ _ aa he b⟩
theorem j9.len {c:PP} (hc:ck c):∀e {x y:Rat},x<y->j9 (aV c) (aS c) e x y->((ej (aV c) (aS c) e x y).length:Int)=bt c x y
 |0,_,_,_,h=>h.elim
 |e+1,x,y,hxy,h=>by
  obtain⟨_,_,h3⟩:=h
  unfold ej
  rw[kU]at h3 ⊢
  by_cases h0:bt c x y=0
  ·rw[if_pos h0,h0];rfl
  ·rw[if_neg h0]
   by_cases h1:bt c x y=1
   ·rw[if_pos h1,h1];rfl
   ·obtain⟨_,a,b⟩:=h3 h0 h1
    obtain⟨m1,m2,_⟩:=qJ hxy
    have i1:=j9.len hc e m1 a
    have i2:=j9.len hc e m2 b
    have e2:cC (aS c 0) (bE x y)=aq (aW c) (bE x y):=jw
    rw[if_neg h1,e2,oI m1 m2,List.length_append]
    by_cases h2:aq (aW c) (bE x y)=0
    ·rw[if_pos h2,if_pos h2,List.length_cons];omega
    ·rw[if_neg h2,if_neg h2];omega
theorem AX {c:PP}:∀e j x y,j+e=cj->jJ j x y->∀s,s∈ej (aV c) (aS c) e x y->Dy s.1/\Dy s.2
 |0,_,_,_,_,_=>fun s hs=>by cases hs
 |e+1,j,x,y,hj,h=>fun s hs=>by
  unfold ej at hs
  have hlt:=h.lt
  have kx:=uu (show j<=cj by omega) h.nx
  have ky:=uu (show j<=cj by omega) h.ny
  obtain⟨a,b⟩:=h.Nv
  split at hs
  ·cases hs
  ·split at hs
   ·rw[List.mem_singleton]at hs
    subst hs
    exact⟨by show Dy (gj x y);unfold gj;split<;>assumption,by show Dy (fQ x y);unfold fQ;split<;>assumption⟩
   ·rcases List.mem_append.1 hs with hs|hs
    ·exact AX e (j+1) _ _ aa a s hs
    ·split at hs
     ·rcases List.mem_cons.1 hs with hs|hs
      ·subst hs
       exact⟨uu (show j+1<=cj by omega) a.ny,uu (show j+1<=cj by omega) a.ny⟩
      ·exact AX e (j+1) _ _ aa b s hs
     ·exact AX e (j+1) _ _ aa b s hs
theorem Fh {c:PP} (h:ck c):∀j,ck (eI c j)
 |0=>h.gcd
 |j+1=>(Fh h j).gcd
theorem DL:Dy 0:=⟨0,Nat.zero_le _,jJ.zero.nx⟩
theorem En:Dy 1:=⟨0,Nat.zero_le _,jJ.zero.ny⟩
theorem EH {c:PP} {s:Rat×Rat} (hs:s∈jQ cj (aV c) (aS c)):Dy s.1/\Dy s.2:=by
 unfold jQ at hs
 rcases List.mem_append.1 hs with hs|hs
 ·rcases List.mem_append.1 hs with hs|hs
  ·split at hs
   ·rw[List.mem_singleton]at hs;subst hs;exact⟨DL,DL⟩
   ·cases hs
  ·exact AX cj 0 _ _ (Nat.zero_add _) jJ.zero s hs
 ·split at hs
  ·rw[List.mem_singleton]at hs;subst hs;exact⟨En,En⟩
  ·cases hs
theorem CC {l:List (Rat×Rat)} {i:Nat} (h:i<l.length):bN l i∈l:=by
 unfold bN
 rw[List.getD_eq_getElem?_getD,List.getElem?_eq_getElem h]
 exact List.getElem_mem h
theorem Yt {c:PP} (hc:ck c):(jQ cj (aV c) (aS c)).length<=10:=by
 have h1:=j9.len hc cj (show(0:Rat)<1 by decide) (zc hc cj 0 0 1 (Nat.zero_add _) (by have:=nD;omega) jJ.zero)
 have h2:=RT hc.fG 0 1
 unfold jQ
 rw[List.length_append,List.length_append]
 have a:(if cC (aS c 0) 0=0 then [((0:Rat),(0:Rat))]else []).length<=1:=by split<;>simp
 have b:(if cC (aS c 0) 1=0 then [((1:Rat),(1:Rat))]else []).length<=1:=by split<;>simp
 omega
theorem P8 {p:PP} (hof:iU p) (hg:(ak p).1≠0->ck (ak p)):sV cj p:=by
 refine⟨hof,fun h0=>?_⟩
 have hc:=hg h0
 have hs:=wj hc
 have e:dO cj p=jQ cj (aV (ak p)) (aS (ak p)):=if_neg h0
 rw[e]
 have hl:=Yt hc
 refine⟨(qH hc).1,aa,DL.ch hc,En.ch hc,zc hc cj 0 0 1 (Nat.zero_add _) (by have:=nD;omega) jJ.zero,aa,Lc hc,fun j _=>?_⟩
 have hj:=Fh hc j
 have hs2:=wj hj
 refine⟨Lc hj,(qH hj).1,aa,fun i hi=>?_⟩
 obtain⟨a,b⟩:=EH (CC hi)
 exact⟨a.ch hj,b.ch hj⟩
def gi (c:PP):Nat->PP
 |0=>c
 |j+1=>bL (gi c j) (bh (gi c j))
def fD (c:PP) (x y:Rat):Bool:=if x=y then decide (cC c x=0)else decide (fR (aV c) (aS c) x y≠0)
def kY (c:PP) (x y:Rat):Nat->Nat->Nat
 |0,j=>j
 |f+1,j=>if 1<(gi c j).1 then(if fD (gi c j) x y=true then kY c x y f (j+1)else j)else j
abbrev U6:AV:=agg [rat 0 1,rat 0 1]
theorem EE {q:Rat}:bR q=0↔q=0:=by
 rcases yp q with h|h|h<;>unfold bR at h ⊢<;>grind
theorem Xz {c:PP} {x y:Rat} {j:Nat} (h:¬(1<(gi c j).1/\fD (gi c j) x y=true)) (f:Nat):kY c x y f j=j:=by
 cases f with
 |zero=>rfl
 |succ f=>
  unfold kY
  by_cases h1:1<(gi c j).1
  ·rw[if_pos h1,if_neg fun h2=>h ⟨h1,h2⟩]
  ·rw[if_neg h1]
def pU (d:Nat) (p:PP):List (Rat×Rat):=if(ak p).1=0 then []else(if cC (ak p) 0=0 then [(0,0)]else [])++ej (aV (ak p)) (aS (ak p)) d 0 ((1:Int):Rat)++(if cC (ak p) ((1:Int):Rat)=0 then [(((1:Int):Rat),((1:Int):Rat))]else [])
def FZ (d:Nat) (p:PP) (i:Nat):Nat:=kY (ak p) (bN (pU d p) i).1 (bN (pU d p) i).2 (ak p).1 0
abbrev j0 (a:(Rat×Rat)×Int):AV:=.agg [eu a.1.1 a.1.2 ag,.int .i64 a.2]
theorem ou {c:PP} (h:ck c):∀j,ck (gi c j)
 |0=>h
 |j+1=>(ou h j).gcd
theorem Db {c:PP}:∀j,gi c (j+1)=eI c j
 |0=>rfl
 |j+1=>by show bL (gi c (j+1)) (bh (gi c (j+1)))=bL (eI c j) (bh (eI c j));rw[Db j]
theorem Dy.sz {z:Rat} (hz:Dy z):Sz z ag:=by
 obtain⟨j,h1,h2⟩:=hz
 have hD:=nD
 have hW:=dc
 exact(h2.sz (by have:=Nat.pow_pos (n:=j) (show 0<2 by decide);omega) (e:=j) (by rw[Int.natAbs_natCast];exact Nat.le_refl _)).more aa
theorem DA {a:PP} {s τ:Nat} {T:Int} {t:Rat} (h:Bd a s) (ht:bY T τ t) (hT:T.natAbs<=2^τ) (hT0:T≠0) (hl:a.1<=13) (hs:2*(s+13*(τ+1))+2<=ag):jx a t:=by
 obtain⟨D,d1,d2,d3⟩:=h
 intro m hm
 have h1:=DV d3 ht hT m hm
 have h2:=nK d2 (zC hT m)
 have h3:m*(τ+1)<=13*(τ+1):=Nat.mul_le_mul_right _ aa
 have h4:m*τ<=13*(τ+1):=Nat.mul_le_mul aa aa
 exact((h1.more (show s+m*(τ+1)<=s+13*(τ+1) by omega)).sz (Int.mul_ne_zero d1 (Int.pow_ne_zero hT0)) (Nat.le_trans h2 (Nat.pow_le_pow_right (by decide) (show s+m*τ<=s+13*(τ+1) by omega)))).more aa
theorem Dy.va {c:PP} (h:ck c) {z:Rat} (hz:Dy z):jx c z:=by
 obtain⟨j,h1,h2⟩:=hz
 have hD:=nD
 have hW:=dc
 exact DA h.bd h2 (by rw[Int.natAbs_natCast];exact Nat.le_refl _) (by have:=Nat.pow_pos (n:=j) (show 0<2 by decide);omega) h.len aa
theorem tT {c:PP} (h:ck c) {x:Rat}:cC (aS c 0) x=0↔cC c x=0:=by
 rw[show cC (aS c 0) x=aq (aW c) x from jw,show cC c x=aq c x from jw]
 constructor
 ·intro h0
  obtain⟨G,e,_,_,h1,_⟩:=ng h.tr h.p0
  rw[h1,h0,Rat.mul_zero]
 ·exact qO h.tr h.p0
theorem EC {c:PP} (h:ck c) {x y:Rat}:jL (aV c) (aS c) x y=fD c x y:=by
 unfold jL fD
 split
 ·exact decide_eq_decide.2 (tT h)
 ·rw[kU]
  have:=h.fG.oz x y
  exact decide_eq_decide.2 ⟨fun h=>aa,fun h=>aa⟩
theorem UN {c d:PP} (hc:ck c) (hd:ck d) (hv:Dv d c) {x y:Rat} (h:fD d x y=true):fD c x y=true:=by
 unfold fD at h ⊢
 split at h
 ·rename_i e
  rw[if_pos e]
  have h:=of_decide_eq_true h
  obtain⟨w,hw⟩:=hv
  refine decide_eq_true ?_
  rw[jw]at h ⊢
  show aq c x=0
  rw[hw,show aq d x=0 from h,Rat.zero_mul]
 ·rename_i e
  rw[if_neg e]
  have h:=of_decide_eq_true h
  refine decide_eq_true ?_
  rw[kU]at h ⊢
  have h1:=hd.fG.oz x y
  have h2:=zn hc.fG hd.fG (yJ hc.tr hc.p0 hd.tr hd.p0 hv) x y
  omega
theorem vZ {c:PP} (hc:ck c) {x y:Rat} (h:fD c x y=true):1<c.1:=by
 refine Decidable.byContradiction fun hn=>?_
 have h1:c.1=1:=by have:=hc.p0;omega
 have hev:∀t,aq c t=c.2 0:=fun t=>by
  show ev c.1 c.2 t=_
  rw[h1]
  show 0+c.2 0*t^0=_
  rw[Rat.pow_zero];grind
 have hne:c.2 0≠0:=by
  rcases hc.tr with h2|h2
  ·omega
  ·rw[h1]at h2;exact h2
 have hf:∀t,aq (aW c) t≠0:=fun t h0=>by
  obtain⟨G,e,_,_,h2,_⟩:=ng hc.tr hc.p0
  have:=h2 t
  rw[hev,h0,Rat.mul_zero]at this
  exact hne this
 unfold fD at h
 split at h
 ·have h:=of_decide_eq_true h
  rw[jw,show ev c.1 c.2 x=aq c x from rfl,hev]at h
  exact hne h
 ·have h:=of_decide_eq_true h
  rw[kU]at h
  apply h
  have hk:cS c=0:=by
   have hl:=(aW c).1
   have:=(mc (s:=ek c) nM.1 nM.2).1
   have h2:(ek c).2.1<=(aW c).1-1:=fU
   obtain⟨G,e,_,_,h3,_⟩:=ng hc.tr hc.p0
   have h4:=Dv.len (h:=aW c) (g:=c) ⟨G,fun t=>by rw[h3,Rat.mul_comm]⟩ hc.p0 hc.tr iA
   have h5:cS c=fl (ek c):=rfl
   omega
  unfold bt
  split
  ·rfl
  ·rw[if_neg (hf y)]
   unfold oC
   rw[hk]
   unfold vr
   rw[l6,l6]
   simp[cN]
theorem ya {c:PP} (hc:ck c):∀e {x y:Rat},x<y->∀s,s∈ej (aV c) (aS c) e x y->s.1<=s.2/\fD c s.1 s.2=true/\x<=s.1/\s.2<=y
 |0,_,_,_=>fun s hs=>by cases hs
 |e+1,x,y,hxy=>fun s hs=>by
  unfold ej at hs
  obtain⟨m1,m2,_⟩:=qJ hxy
  have pt:cC (aS c 0) (bE x y)=0->fD c (bE x y) (bE x y)=true:=fun h=>by
   unfold fD;rw[if_pos rfl];exact decide_eq_true ((tT hc).1 h)
  split at hs
  ·cases hs
  ·split at hs
   ·rename_i h1
    rw[List.mem_singleton,show gj x y=x from if_neg (by grind),show fQ x y=y from if_pos hxy]at hs
    subst hs
    refine⟨Rat.le_of_lt hxy,?_,Rat.le_refl,Rat.le_refl⟩
    unfold fD
    rw[if_neg (by grind),h1];rfl
   ·rcases List.mem_append.1 hs with hs|hs
    ·obtain⟨a,b,c1,d⟩:=ya hc e m1 s hs
     exact⟨a,b,c1,by grind⟩
    ·split at hs
     ·rename_i h2
      rcases List.mem_cons.1 hs with hs|hs
      ·subst hs
       exact⟨Rat.le_refl,pt h2,by grind,by grind⟩
      ·obtain⟨a,b,c1,d⟩:=ya hc e m2 s hs
       exact⟨a,b,by grind,d⟩
     ·obtain⟨a,b,c1,d⟩:=ya hc e m2 s hs
      exact⟨a,b,by grind,d⟩
theorem VN {c:PP} (hc:ck c) {s:Rat×Rat} (hs:s∈jQ cj (aV c) (aS c)):s.1<=s.2/\fD c s.1 s.2=true:=by
 have pt:∀z,cC (aS c 0) z=0->fD c z z=true:=fun z h=>by unfold fD;rw[if_pos rfl];exact decide_eq_true ((tT hc).1 h)
 unfold jQ at hs
 rcases List.mem_append.1 hs with hs|hs
 ·rcases List.mem_append.1 hs with hs|hs
  ·split at hs
   ·rename_i h;rw[List.mem_singleton]at hs;subst hs;exact⟨Rat.le_refl,pt _ h⟩
   ·cases hs
  ·have:=ya hc cj (show(0:Rat)<1 by decide) s hs
   exact⟨this.1,this.2.1⟩
 ·split at hs
  ·rename_i h;rw[List.mem_singleton]at hs;subst hs;exact⟨Rat.le_refl,pt _ h⟩
  ·cases hs
theorem u9 {p:PP} (hg:(ak p).1≠0->ck (ak p)):pU cj p=dO cj p:=by
 have o1:((1:Int):Rat)=1:=rfl
 unfold pU dO jQ
 by_cases h0:(ak p).1=0
 ·rw[if_pos h0,if_pos h0]
 ·have hc:=hg h0
  rw[if_neg h0,if_neg h0,o1]
  have e:∀z:Rat,(if cC (ak p) z=0 then [(z,z)]else [])=if cC (aS (ak p) 0) z=0 then [(z,z)]else []:=fun z=>by
   by_cases h:cC (ak p) z=0
   ·rw[if_pos h,if_pos ((tT hc).2 h)]
   ·rw[if_neg h,if_neg fun h2=>h ((tT hc).1 h2)]
  rw[e,e]
theorem Fq {c:PP} (hc:ck c) {x y:Rat}:∀f j,(gi c j).1<=f->j<=kY c x y f j/\(∀i,j<=i->i<kY c x y f j->fD (gi c i) x y=true)/\¬(1<(gi c (kY c x y f j)).1/\fD (gi c (kY c x y f j)) x y=true)
 |0,j,h=>⟨aX,fun i h1 h2=>by have:i<j:=h2;omega,fun h2=>by have:1<(gi c j).1:=h2.1;omega⟩
 |f+1,j,h=>by
  by_cases hh:1<(gi c j).1/\fD (gi c j) x y=true
  ·have e:kY c x y (f+1) j=kY c x y f (j+1):=by
    conv=>lhs;unfold kY
    rw[if_pos hh.1,if_pos hh.2]
   have hgl:=LR (ou hc j).tr hh.1
   obtain⟨a,b,d⟩:=Fq hc (x:=x) (y:=y) f (j+1) (by show(bL _ _).1<=f;omega)
   rw[e]
   refine⟨aa,fun i h1 h2=>?_,d⟩
   rcases Nat.eq_or_lt_of_le h1 with h3|h3
   ·rw[<-h3];exact hh.2
   ·exact b i h3 h2
  ·rw[Xz hh]
   exact⟨aX,fun i h1 h2=>aa,hh⟩
theorem L9 {c:PP} (hc:ck c) (j:Nat):Dv (gi c (j+1)) (gi c j):=by
 show Dv (bL (gi c j) (bh (gi c j))) (gi c j)
 exact(l9 (ou hc j).tr dS).1
theorem aao {c:PP} (hc:ck c) {x y:Rat} (j:Nat) (h:fD (gi c (j+1)) x y=true):fD (gi c j) x y=true:=UN (ou hc j) (ou hc (j+1)) (L9 hc j) h
theorem ae5 {c:PP} (hc:ck c) {x y:Rat} {i:Nat} (m:Nat) (h:fD (gi c (i+m)) x y=true):fD (gi c i) x y=true:=by
 induction m with
 |zero=>exact h
 |succ m ih=>exact ih (aao hc (i+m) h)
theorem abD {c:PP} (hc:ck c) {l:List (Rat×Rat)} {i:Nat} (h0:fD c (bN l i).1 (bN l i).2=true):kD c l (kV c c.1 0) i=kY c (bN l i).1 (bN l i).2 c.1 0:=by
 obtain⟨J,hJ⟩:∃J,J=kY c (bN l i).1 (bN l i).2 c.1 0:=⟨_,rfl⟩
 obtain⟨_,j2,j3⟩:=Fq hc (x:=(bN l i).1) (y:=(bN l i).2) c.1 0 aX
 rw[<-hJ]at j2 j3 ⊢
 have j3:fD (gi c J) (bN l i).1 (bN l i).2≠true:=fun h=>j3 ⟨vZ (ou hc J) h,h⟩
 have hJ1:1<=J:=by
  refine Decidable.byContradiction fun hn=>j3 ?_
  rw[show J=0 by omega];exact h0
 have iff:∀k,fD (gi c k) (bN l i).1 (bN l i).2=true↔k<J:=fun k=>by
  constructor
  ·intro h
   refine Decidable.byContradiction fun hn=>j3 ?_
   exact ae5 hc (k-J) (by rw[show J+(k-J)=k by omega];exact h)
  ·exact fun h=>j2 k (Nat.zero_le _) h
 have cnt:∀k,kD c l k i=1+min k (J-1):=by
  intro k
  induction k with
  |zero=>show 1=_;rw[Nat.zero_min]
  |succ k ih=>
   have e:jL (aV (eI c k)) (aS (eI c k)) (bN l i).1 (bN l i).2=fD (gi c (k+1)) (bN l i).1 (bN l i).2:=by rw[Db];exact EC (Fh hc k)
   show(if jL (aV (eI c k)) (aS (eI c k)) (bN l i).1 (bN l i).2=true then _ else _)=_
   rw[e,ih]
   by_cases h:k+1<J
   ·rw[if_pos ((iff _).2 h)];omega
   ·rw[if_neg fun h2=>h ((iff _).1 h2)];omega
 rw[cnt]
 have hN:J-1<=kV c c.1 0:=by
  obtain⟨n1,_,_⟩:=GX hc.tr c.1 0 (CE hc.tr 0)
  refine Decidable.byContradiction fun hn=>?_
  have h1:=(iff (J-1)).2 aa
  have h2:=vZ (ou hc (J-1)) h1
  rw[show J-1=(J-2)+1 by omega,Db]at h2
  have mono:∀m,(eI c (kV c c.1 0+m)).1<=1:=by
   intro m
   induction m with
   |zero=>exact n1
   |succ m ih=>exact Nat.le_trans (yA (uh hc.tr _)) ih
  have:=mono (J-2-kV c c.1 0)
  rw[show kV c c.1 0+(J-2-kV c c.1 0)=J-2 by omega]at this
  omega
 omega
theorem Vm {p:PP} (hg:(ak p).1≠0->ck (ak p)) {i:Nat} (hi:i<(dO cj p).length):lJ cj p i=FZ cj p i:=by
 unfold lJ FZ
 rw[u9 hg]
 by_cases h0:(ak p).1=0
 ·rw[show dO cj p=[]from if_pos h0]at hi;exact absurd hi (Nat.not_lt_zero _)
 ·have hc:=hg h0
  have e:dO cj p=jQ cj (aV (ak p)) (aS (ak p)):=if_neg h0
  refine abD hc ?_
  have hm:=CC hi
  rw[e]at hm ⊢
  exact(VN hc hm).2
def SU (h:Pl):V3:=⟨((1:Int):Rat)/h.d*h.n.x,((1:Int):Rat)/h.d*h.n.y,((1:Int):Rat)/h.d*h.n.z⟩
def Ui (c:Cu) (x:Nat->Rat) (b j:Nat):Pl:=
 ⟨⟨zl j fun j=>x j*((c.f (b+j)).d*(c.f (b+j)).n.x),zl j fun j=>x j*((c.f (b+j)).d*(c.f (b+j)).n.y),zl j fun j=>x j*((c.f (b+j)).d*(c.f (b+j)).n.z)⟩,zl j fun j=>x j*(c.f (b+j)).d⟩
def Yg (c:Cu) (t:Rat):Pl:=Ui c (vB c.k (LL c.n c.k t) t c.p.toNat) (LL c.n c.k t-c.p.toNat) (c.p.toNat+1)
def aq (c:Cu) (t:Rat):V3:=if Lp c.n c.k t then⟨0,0,0⟩else SU (Yg c t)
theorem div_one {a b:Rat}:a/b=((1:Int):Rat)/b*a:=by
 rw[Rat.div_def,Rat.div_def,show((1:Int):Rat)=1 from rfl,Rat.one_mul,Rat.mul_comm]
abbrev DY (n:Nat) (z:Nat->Int):AV:=.az 1 n (fun i=>.int .i64 (z i))
theorem adD:bC 192 f192:=bD func192
theorem aaJ:bC 176 f176:=bD func176
def Oh:Spec:=cw fun l=>match l with
 |[.mag N]=>some (aT (.bool true) [nl N<2^40])
 |_=>none
def Px:bG:=nG::(192,Oh)::(126,cw (mW El))::(167,cw (jH Fp))::(120,D7)::[]
def K2:Spec:=cw fun l=>match l with
 |[.rat q n]=>some (aT (.bool true) [n<2^44])
 |_=>none
theorem WG {N:Nat}:cy T [nG] [6] 60 f192 (aJ f192) ⟨bf 0 [.mag N],[],0⟩=
  let c2:Bool:=(↑(nl N):Int)==0;let c1:Int:=(↑(nl N):Int)-1;some (fork c2 (aj [c2=true] (leaf ret [AV.bool true])) (aj [c2=false,-(2:Int)^63<=c1/\c1<2^63,(0:Int)<=c1/\c1.toNat<nl N] (leaf ret [AV.bool (bif false then true else(↑(aE N c1.toNat):Int)!=0)]))):=ah
theorem ZN {q:Rat} {n:Nat}:cy T Px [18,25,29,33,43] 60 f176 (aJ f176) ⟨bf 0 [.rat q n],[],0⟩=
  let c9:af (List AV):=leaf ret [AV.bool false];let c7:Bool:=!decide (q<0);let c6:Nat:=q.num.natAbs;let c4:Nat:=2^40;let c3:Prop:=0<1;let c2:Nat:=if q.den=1 then 0 else q.den;let c5:Int:=(↑(nl c2):Int);let c10:Bool:=c5==1;let c8:Bool:=c5==0;let c1:af (List AV):=aj [c3] (fork ((↑(nl c6):Int)==0) (fork c7 (aj [c3,c7=true,c3] (leaf ret [AV.bool (bif true then c8 else false)])) (aj [c3,c7=false] c9)) (fork c8 (aj [c3,c8=true] (leaf ret [AV.bool true])) (aj [c3,c8=false,c3,c3,nl c6<c4,nl c2<c4,nl (c6.gcd c2)<c4] (leaf ret [AV.bool (bif false then true else(↑(bU (c6.gcd c2)):Int)==1)]))));some (fork c10 (aj [c3,nl c6<c4,c3,nl c2<c4,c3,c10=true,c3,(0:Int)<=0/\Int.toNat (0:Int)<nl c2] (fork (bif bif !true then true else !true then true else bif true then(↑(aE c2 (Int.toNat (0:Int))):Int)==1 else false) c9 c1)) (aj [c3,nl c6<c4,c3,nl c2<c4,c3,c10=false] (fork false c9 c1))):=ah
theorem Uj {N:Nat} (hn:nl N<2^40) (K:Nat):aY P 192 K [.mag N] [] (aT (.bool true) []):=by
 refine cB hT (jh cK) hm adD rfl br rfl 60 WG (fun _=>?_) K []
 simp only[af.all,aF]
 refine⟨fun h=>⟨h,.refl _⟩,fun h=>?_⟩
 have h0:nl N≠0:=fun he=>by rw[he]at h;exact absurd h (by decide)
 have h1:N≠0:=fun he=>h0 (kA.2 he)
 have e1:((nl N:Int)-1).toNat=nl N-1:=aa
 have h2:=BD h1
 rw[e1]
 refine⟨⟨h,aa,aa⟩,iV ?_⟩
 rw[cond_false]
 exact bne_iff_ne.2 aa
theorem Vi:bF P Oh 192:=by
 refine cY fun K args r hk hs _=>?_
 split at hs
 ·simp only[aB]at hs
  subst hs
  exact fun need=>Uj need K trivial
 ·simp at hs
theorem R7:cm P Px:=jh (aM Vi (aM MN (aM Jx (aM JA cK))))
theorem afK {N:Nat} (h:nl N=1) (h1:aE N 0=1):N=1:=by
 have h2:N<2^(32*1):=eo.1 aa
 unfold aE at h1
 omega
theorem afd {q:Rat} {n:Nat} (hn:n<2^44) (K:Nat):aY P 176 K [.rat q n] [] (aT (.bool true) []):=by
 refine lX fun⟨hs1,_⟩=>?_
 obtain⟨a1,a2,a3⟩:=Sz.lD hs1 hn
 refine cB hT R7 hm aaJ rfl br rfl 60 ZN (fun _=>?_) K []
 obtain⟨D,hD⟩:∃D,D=if q.den=1 then 0 else q.den:=⟨_,rfl⟩
 have hD1:D≠1:=by rw[hD];split<;>omega
 have hg:D≠0->q.num.natAbs.gcd D=1:=fun h=>by
  have:D=q.den:=by rw[hD]at h ⊢;split<;>simp_all
  rw[this];exact q.reduced
 have hz:q.num.natAbs=0->¬q<0/\D=0:=fun h=>by
  have h0:=oS.1 h
  subst h0
  exact⟨by decide,by rw[hD];rfl⟩
 rw[<-hD]at a3 ⊢
 have nneg:((nl q.num.natAbs:Int)==0)=true->(!decide (q<0))=true/\((nl D:Int)==0)=true:=fun h=>by
  obtain⟨z1,z2⟩:=hz (kA.1 (by have:=beq_iff_eq.1 h;omega))
  rw[decide_eq_false z1,z2];exact⟨rfl,rfl⟩
 have last:((nl D:Int)==0)=false->D≠0:=fun h he=>by rw[he]at h;exact absurd h (by decide)
 simp only[af.all,aF,cond_true,cond_false,Bool.not_true]
 refine⟨fun h=>⟨⟨aa,a1,aa,a3,aa,h,aa,aa,?_⟩,fun h2=>?_,fun h2=>⟨aa,fun h3=>⟨fun h4=>⟨⟨aa,h4,aa⟩,iV (nneg h3).2⟩,fun h4=>absurd (h4.symm.trans (nneg h3).1) (by decide)⟩,fun h3=>⟨fun h4=>⟨⟨aa,h4⟩,.refl _⟩,fun h4=>?_⟩⟩⟩,
  fun h=>⟨⟨aa,a1,aa,a3,aa,h⟩,fun h=>absurd h (by decide),fun _=>⟨aa,fun h3=>⟨fun h4=>⟨⟨aa,h4,aa⟩,iV (nneg h3).2⟩,fun h4=>absurd (h4.symm.trans (nneg h3).1) (by decide)⟩,fun h3=>⟨fun h4=>⟨⟨aa,h4⟩,.refl _⟩,fun h4=>?_⟩⟩⟩⟩
 ·have:=beq_iff_eq.1 h
  rw[Int.toNat_zero];omega
 ·have e1:=beq_iff_eq.1 h
  have e2:=beq_iff_eq.1 h2
  exact absurd (afK aa (by rw[Int.toNat_zero]at e2;omega)) hD1
 ·rw[hg (last h4)]
  exact⟨⟨aa,h4,aa,aa,a1,a3,by decide⟩,iV (by decide)⟩
 ·rw[hg (last h4)]
  exact⟨⟨aa,h4,aa,aa,a1,a3,by decide⟩,iV (by decide)⟩
theorem Rz:bF P K2 176:=by
 refine cY fun K args r hk hs _=>?_
 split at hs
 ·simp only[aB]at hs
  subst hs
  exact fun need=>afd need K trivial
 ·simp at hs
def ED:Nat:=2^38
def YF:bG:=nG::(176,K2)::gF
def jk (x y:Rat):Bool:=decide (gr x y<=0)
def LX:Spec:=eR (kC (rV ag) kN) (fun a=>.bool (jk a.1.1 a.1.2)) fun _=>[]
def Jy:Spec:=eR (kC (rV ag) kN) (fun a=>.rat (a.1.2-a.1.1) ED) fun _=>[]
def An:Spec:=eR (kC (rV ag) kN) (fun a=>.rat (bE a.1.1 a.1.2) ag) fun a=>[Sz (bE a.1.1 a.1.2) ag]
def Sl:bG:=nG::(69,EF)::[]
def ZS:bG:=nG::(111,An)::(68,za)::[]
def L4:Spec:=eR (kC (rV ag) kN) (fun a=>.tuple [eu (gj a.1.1 (bE a.1.1 a.1.2)) (fQ a.1.1 (bE a.1.1 a.1.2)) ag,eu (gj (bE a.1.1 a.1.2) a.1.2) (fQ (bE a.1.1 a.1.2) a.1.2) ag]) fun a=>[Sz (bE a.1.1 a.1.2) ag]
def iB (n:Nat) (c:Nat->PP) (s:Rat×Rat):Rat×Rat:=if cC (c 0) (bE s.1 s.2)=0 then(bE s.1 s.2,bE s.1 s.2)else if fR n c s.1 (bE s.1 s.2)=1 then(s.1,bE s.1 s.2)else(bE s.1 s.2,s.2)
def sC (n:Nat) (c:Nat->PP) (s:Rat×Rat):Prop:=0<n/\n<2^30/\s.1<s.2/\cJ n c s.1/\cJ n c (bE s.1 s.2)/\Sz (bE s.1 s.2) ag
def FI:Spec:=eR (kC ry (kC (rV ag) kN)) (fun a=>eu (iB a.1.1 a.1.2 a.2.1).1 (iB a.1.1 a.1.2 a.2.1).2 ag) fun a=>[sC a.1.1 a.1.2 a.2.1]
def TN:bG:=nG::(111,An)::(70,Bu)::(154,L4)::(66,sk)::(60,sX)::gF
theorem YQ:bC 153 f153:=bD func153
theorem Wp {x y:Rat}:cy T YF [] 60 f153 (aJ f153) ⟨bf 0 [eu x y ag],[],0⟩=
  let c3:Prop:=ag<2^42;let c2:Prop:=ag<2^44;let c1:Prop:=0<1;some (aj [c1,c2,c1,c2,c1,c1,c3,c3] (leaf ret [AV.bool (bif bif true then true else false then decide (gr x y<=0)else false)])):=ah
theorem afe:bC 105 f105:=bD func105
theorem Tu {x y:Rat} {n:Nat}:cy T gF [] 60 f105 (aJ f105) ⟨bf 0 [eu x y n],[],0⟩=
  let c2:Prop:=n<2^42;let c1:Prop:=0<1;some (aj [c1,c1,c2,c2,c1] (aj [c1] (leaf ret [rat (y-x) (n+n+1)]))):=ah
theorem UW:bC 111 f111:=bD func111
theorem Xf {x y:Rat}:cy T Sl [] 60 f111 (aJ f111) ⟨bf 0 [eu x y ag],[],0⟩=
  let c1:Prop:=0<1;some (aj [c1,c1,ag<=ag,ag<=ag,Sz (bE x y) ag,c1] (aj [c1] (leaf ret [rat (bE x y) ag]))):=ah
theorem Y0:bC 154 f154:=bD func154
theorem YK {x y:Rat}:cy T ZS [] 60 f154 (aJ f154) ⟨bf 0 [eu x y ag],[],0⟩=
  let c2:Rat:=bE (aN (rat x ag)) (aN (rat y ag));let c1:Prop:=0<1;some (aj [c1,bg (rat x ag) (rat (aN (rat x ag)) ag),bg (rat y ag) (rat (aN (rat y ag)) ag),Sz c2 ag,c1] (aj [c1,c1,ag<=ag,ag<=ag,c1,c1,ag<=ag,ag<=ag,c1,c1] (aj [c1,c1] (leaf ret [agg [rat (gj x c2) ag,rat (fQ x c2) ag],agg [rat (gj c2 y) ag,rat (fQ c2 y) ag]])))):=ah
theorem Tz:bC 106 f106:=bD func106
theorem TU {n:Nat} {c:Nat->PP} {x y:Rat}:cy T TN [16,30] 60 f106 (aJ f106) ⟨bf 0 [gB n c,eu x y ag],[],0⟩=
  let c5:Rat:=aN (rat y ag);let c4:Rat:=aN (rat x ag);let c3:PP:=c (Int.toNat (0:Int));let c2:Prop:=0<1;let c8:Prop:=bg (rat x ag) (rat c4 ag);let c7:Nat×(Nat->Rat):=(c3.fst,fun i=>aN (rat (c3.snd i) ag));let c6:Prop:=bg (rat y ag) (rat c5 ag);let c1:Rat:=bE c4 c5;let c9:AV:=rat c1 ag;some (aj [c2,c8,c6,Sz c1 ag,c2] (aj [(0:Int)<=0/\Int.toNat (0:Int)<n,c2,cX (fun i=>rat (c3.snd i) ag) c3.fst ag,ag<=ag,c3.fst<2^40,jx c7 c1,ag<2^42] (fork (bR (cC c7 c1)==0) (aj [c2,ag<=ag,c2] (aj [c2] (leaf ret [agg [c9,c9]]))) (aj [c2,c8,c6,Sz c1 ag,c2,c2] (aj [c2,c2,∀(i:Nat),i<n->bg (aO (c i)) (aO (b7 (aO (c i)))),ag<=ag,ag<=ag,(0:Nat)<n,n<2^40,cJ n (fun i=>b7 (aO (c i))) (gj c4 c1),cJ n (fun i=>b7 (aO (c i))) (fQ c4 c1)] (fork (fR n (fun i=>b7 (aO (c i))) (gj c4 c1) (fQ c4 c1)==1) (aj [c2,c2] (aj [c2] (leaf ret [agg [rat (gj c4 c1) ag,rat (fQ c4 c1) ag]]))) (aj [c2,c2] (aj [c2] (leaf ret [agg [rat (gj c1 c5) ag,rat (fQ c1 c5) ag]]))))))))):=ah
theorem Zd:bF P LX 153:=fk fun⟨⟨x,y⟩,_⟩ K _=>by
 have hW:=dc
 refine cB hT (jh (aM Rz gU)) hm YQ rfl br rfl 60 Wp (fun _=>?_) K []
 simp only[af.all,aF,cond_true]
 exact⟨⟨aa,aa,aa,aa,aa,aa,aa,aa⟩,.refl _⟩
theorem HN:ED=2^38:=rfl
theorem aaj:bF P Jy 105:=fk fun⟨⟨x,y⟩,_⟩ K _=>by
 have hW:=dc
 have hV:=HN
 refine cB hT gU hm afe rfl br rfl 60 Tu (fun _=>?_) K []
 simp only[af.all,aF]
 exact⟨⟨aa,aa,aa,aa,aa⟩,aa,fh rfl aa⟩
theorem GV:bF P An 111:=fk fun⟨⟨x,y⟩,_⟩ K hn=>by
 refine cB hT (jh (aM HY cK)) hm UW rfl br rfl 60 Xf (fun _=>?_) K []
 simp only[af.all,aF]
 exact⟨⟨aa,aa,aX,aX,hn,aa⟩,aa,.refl _⟩
theorem aej:bF P L4 154:=fk fun⟨⟨x,y⟩,_⟩ K hn=>by
 refine cB hT (jh (aM GV (aM BS cK))) hm Y0 rfl br rfl 60 YK (fun _=>?_) K []
 simp only[af.all,aF]
 exact⟨⟨aa,.refl _,.refl _,hn,aa⟩,⟨aa,aa,aX,aX,aa,aa,aX,aX,aa,aa⟩,⟨aa,aa⟩,.refl _,.refl _,trivial⟩
theorem X7 {n:Nat} {c:Nat->PP} {x y:Rat} (h:sC n c (x,y)) (K:Nat):aY P 106 K [gB n c,eu x y ag] [] (aT (eu (iB n c (x,y)).1 (iB n c (x,y)).2 ag) []):=by
 have hW:=dc
 obtain⟨h1,h2,h3,h4,h5,h6⟩:=h
 have h3:x<y:=h3
 obtain⟨m1,m2,_⟩:=qJ h3
 obtain⟨v1,v2⟩:=h5 0 h1
 have hrd:∀i,i<n->bg (aO (c i)) (aO (b7 (aO (c i)))):=fun i _=>.refl _
 have e1:gj x (bE x y)=x:=if_neg (by grind)
 have e2:fQ x (bE x y)=bE x y:=if_pos m1
 have e3:gj (bE x y) y=bE x y:=if_neg (by grind)
 have e4:fQ (bE x y) y=y:=if_pos m2
 refine cB hT (jh (aM GV (aM EM (aM aej (aM vX (aM u6 gU)))))) hm Tz rfl br rfl 60 TU (fun _=>?_) K []
 simp only[af.all,aF,beq_iff_eq,beq_eq_false_iff_ne,ne_eq]
 simp only[show aN (rat x ag)=x from rfl,show aN (rat y ag)=y from rfl,e1,e2,e3,e4]
 unfold iB
 refine⟨⟨aa,.refl _,.refl _,h6,aa⟩,⟨⟨aa,h1⟩,aa,mG (a:=c 0),aa,v1,v2,aa⟩,fun hb=>⟨⟨aa,aa,aa⟩,aa,?_⟩,fun hb=>⟨⟨aa,.refl _,.refl _,h6,aa,aa⟩,⟨aa,aa,hrd,aa,aa,h1,aa,h4,h5⟩,fun hc=>⟨⟨aa,aa⟩,aa,?_⟩,fun hc=>⟨⟨aa,aa⟩,aa,?_⟩⟩⟩
 ·rw[if_pos (show cC (c 0) (bE x y)=0 from EE.1 hb)];exact .refl _
 ·rw[if_neg (show¬cC (c 0) (bE x y)=0 from fun h=>hb (EE.2 h)),if_pos (show fR n c x (bE x y)=1 from hc)];exact .refl _
 ·rw[if_neg (show¬cC (c 0) (bE x y)=0 from fun h=>hb (EE.2 h)),if_neg (show¬fR n c x (bE x y)=1 from hc)];exact .refl _
theorem O4:bF P FI 106:=fk fun⟨⟨_,_⟩,⟨_,_⟩,_⟩ K hn=>X7 hn K
def DF:Kind ((Rat×Rat)×Int):=⟨fun v=>match v with
 |.agg [.agg [x,y],.int .i64 t]=>some (((aN x,aN y),t),[bg x (.rat (aN x) ag),bg y (.rat (aN y) ag)])
 |_=>none,fun a=>j0 a,fun {v a q} h hq=>by
  split at h
  ·simp only[aB,Prod.mk.injEq]at h
   obtain⟨rfl,rfl⟩:=h
   exact mY ⟨mY ⟨hq.1,hq.2,trivial⟩,.refl _,trivial⟩
  ·simp at h⟩
def nW (n:Nat) (c:Nat->PP) (s:Rat×Rat):Bool:=jk s.1 s.2&&(if s.1=s.2 then decide (cC (c 0) s.1=0)else decide (fR n c s.1 s.2=1))
def kH (c:PP) (s:Rat×Rat):Bool:=jk s.1 s.2&&(if s.1=s.2 then decide (cC c s.1=0)else decide (fR (aV c) (aS c) s.1 s.2=1))
def CL:Spec:=eR (kC ry (kC DF kN)) (fun a=>.bool (nW a.1.1 a.1.2 a.2.1.1)) fun a=>[0<a.1.1,a.1.1<2^40,jk a.2.1.1.1 a.2.1.1.2=true->cJ a.1.1 a.1.2 a.2.1.1.1/\cJ a.1.1 a.1.2 a.2.1.1.2]
def Ng:bG:=nG::(153,LX)::(74,AL)::(60,sX)::gF
def BJ:bG:=nG::(57,xd)::(59,wJ)::(104,CL)::(68,za)::(105,Jy)::(106,FI)::gF
noncomputable abbrev wP:Code:=aJ f47
abbrev zu:List Nat:=[6,7,5,9,10]
abbrev Dx (n:Nat) (c:Nat->PP):List AV:=[.ptr 0 0 7 0 [],.int .i64 0,.ptr 1 0 3 0 [],gB n c,.ptr 2 0 7 0 []]
abbrev uL:AV:=.agg [U6,.int .i64 0]
abbrev C3 (w:Rat) (s:Rat×Rat) (t:Int):aG:=[(2,⟨false,true,7,1,fun _=>j0 (s,t)⟩),(1,⟨false,true,3,1,fun _=>.rat w ag⟩),(0,⟨false,true,7,1,fun _=>uL⟩)]
theorem aeY:bC 104 f104:=bD func104
theorem Zv {n:Nat} {c:Nat->PP} {x y:Rat} {t:Int}:cy T Ng [8,15] 60 f104 (aJ f104) ⟨bf 0 [gB n c,j0 ((x,y),t)],[],0⟩=
  let c7:Prop:=n<2^40;let c6:Prop:=ag<2^42;let c3:Rat:=aN (rat x ag);let c2:Rat:=aN (rat y ag);let c1:Prop:=0<1;let c5:Prop:=bg (rat x ag) (rat c3 ag);let c4:Prop:=bg (rat y ag) (rat c2 ag);some (aj [c1,c5,c4] (fork (!jk c3 c2) (leaf ret [AV.bool false]) (aj [c1,c1,c6,c6] (fork (decide (x=y)) (aj [c1,∀(i:Nat),i<n->bg (aO (c i)) (aO (b7 (aO (c i)))),c5,c4,(0:Nat)<n,c7,cJ n (fun i=>b7 (aO (c i))) c3,cJ n (fun i=>b7 (aO (c i))) c2] (leaf ret [AV.bool (jL n (fun i=>b7 (aO (c i))) c3 c2)])) (aj [c1,c1,∀(i:Nat),i<n->bg (aO (c i)) (aO (b7 (aO (c i)))),ag<=ag,ag<=ag,(0:Nat)<n,c7,cJ n (fun i=>b7 (aO (c i))) x,cJ n (fun i=>b7 (aO (c i))) y] (leaf ret [AV.bool (fR n (fun i=>b7 (aO (c i))) x y==1)])))))):=ah
theorem IW:bC 47 f47:=bD func47
theorem S0 {p:PP} {s:Rat×Rat} {t:Int} {w:Rat}:aK T BJ [13,18,28] 60 zu (before wP [1,1,1,1,1,1,0]) ⟨bf 0 [aO p,j0 (s,t),.rat w ag],[],0⟩=
  let c13:AV:=tuple [];let c12:AV:=rat s.snd ag;let c11:AV:=rat 0 1;let c10:AV:=rat s.fst ag;let c9:Nat×aC:=(4096,aC.mk false true (dM (rat w ag)).size 1 fun x=>rat w ag);let c8:Nat:=cr (gI p.fst fun i=>aN (rat (p.snd i) ag)) p.fst;let c6:AV:=ptr 8192 0 7 0 [];let c5:Prop:=0<1;let c4:AV:=ptr 4096 0 (dM (rat w ag)).size 0 [];let c3:AV:=agg [agg [c11,c11],int i64 0];let c1:Nat×(Nat->Rat):=(c8,fun i=>aN (rat (gI p.fst (fun i=>aN (rat (p.snd i) ag)) i) ag));let c7:AV:=az 1 (aV c1) fun i=>az 3 (aS c1 i).fst fun i_1=>rat ((aS c1 i).snd i_1) ag;let c2:List (Nat×aC):=[c9,(8192,aC.mk false true 7 1 fun j=>if(j==0)=true then dM (agg c3.kids)else c3)];some (aj [cX (fun i=>rat (p.snd i) ag) p.fst ag,iU (p.fst,fun i=>aN (rat (p.snd i) ag))] (aj [c5,ag<2^42] (fork (decide (bR w<=0)) (aj [c5] (leaf ret ([c6,int i64 7,c4,c13,c13],c2))) (fork ((↑c8:Int)==0) (aj [c5] (leaf ret ([c6,int i64 3,c4,c13,c13],c2))) (aj [cX (fun i=>rat (gI p.fst (fun i=>aN (rat (p.snd i) ag)) i) ag) c8 ag,jK c1] (aj [c5,∀(i:Nat),i<aV c1->bg (aO (aS c1 i)) (aO (b7 (aO (aS c1 i)))),bg c10 (rat (aN c10) ag),bg c12 (rat (aN c12) ag),(0:Nat)<aV c1,aV c1<2^40,jk (aN c10) (aN c12)=true->cJ (aV c1) (fun i=>b7 (aO (aS c1 i))) (aN c10)/\cJ (aV c1) (fun i=>b7 (aO (aS c1 i))) (aN c12)] (fork (!nW (aV c1) (fun i=>b7 (aO (aS c1 i))) (aN c10,aN c12)) (aj [c5] (leaf ret ([c6,int i64 1,c4,c7,c13],c2))) (aj [c5,c5,ag<=ag,ag<=ag,c5,c5] (leaf normal ([c6,int i64 0,c4,c7,ptr 131072 0 7 0 []],[(131072,aC.mk false true 7 1 fun j=>if(j==0)=true then dM (agg ((c3.kids.set 0 (dM (eu (gj s.fst s.snd) (fQ s.fst s.snd) ag))).set 1 (dM (int i64 t))))else c3),c9,(8192,aC.mk false true 7 1 fun x=>c3)])))))))))):=ah
theorem T8 {n:Nat} {c:Nat->PP} {s:Rat×Rat} {t:Int} {w:Rat}:aK T BJ [45] 60 zu [part wP [1,1,1,1,1,1,0,0,0]] ⟨aH zu (Dx n c),C3 w s t,3⟩=
  let c9:AV:=rat 0 1;let c5:Prop:=0<1;let c4:Rat:=aN (rat s.fst ag);let c3:Rat:=aN (rat s.snd ag);let c1:List AV:=[ptr 0 0 7 0 [],int i64 0,ptr 1 0 3 0 [],az 1 n fun i=>az 3 (c i).fst fun i_1=>rat ((c i).snd i_1) ag,ptr 2 0 7 0 []];let c8:Prop:=bg (rat s.fst ag) (rat c4 ag);let c7:Prop:=bg (rat s.snd ag) (rat c3 ag);let c6:Rat×Rat:=iB n (fun i=>b7 (aO (c i))) (c4,c3);let c2:List (Nat×aC):=[((1:Nat),iz fun x=>rat w ag),(0,aC.mk false true 7 1 fun x=>agg [agg [c9,c9],int i64 0])];some (aj [c5,c8,c7,c5,ED<2^42,ag<2^42] (fork (decide (gr (c3-c4) w>0)) (aj [c5,∀(i:Nat),i<n->bg (aO (c i)) (aO (b7 (aO (c i)))),c8,c7,sC n (fun i=>b7 (aO (c i))) (c4,c3),c5] (leaf normal (c1,(2,aC.mk false true 7 1 fun j=>if(j==0)=true then agg ((j0 (s,t)).kids.set 0 (dM (eu c6.fst c6.snd ag)))else j0 (s,t))::c2))) (leaf (exit 1) (c1,(2,aC.mk false true 7 1 fun x=>agg [agg [rat s.fst ag,rat s.snd ag],int i64 t])::c2)))):=ah
theorem aa6 {n:Nat} {c:Nat->PP} {s:Rat×Rat} {t:Int} {w:Rat}:dJ T BJ [] 60 f47 [part wP [1,1,1,1,1,1,1]] ⟨aH zu (Dx n c),C3 w s t,3⟩=
  let c1:Prop:=0<1;some (aj [c1,c1] (aj [c1] (leaf ret [agg [agg [rat s.fst ag,rat s.snd ag],int i64 t],int i64 0]))):=ah
theorem aeV {e:Int} {w:Rat}:nS T f47 .ret ⟨aH [6,7,5] [.ptr 8192 0 7 0 [],.int .i64 e,.ptr 4096 0 3 0 []],[(4096,⟨false,true,3,1,fun _=>.rat w ag⟩),(8192,⟨false,true,7,1,fun j=>if(j==0)=true then dM (.agg uL.kids)else uL⟩)],200000⟩=
  let c1:AV:=rat 0 1;some (aj [(0:Nat)<1] (leaf ret [agg [agg [c1,c1],int i64 0],int i64 e])):=ah
theorem vE {x y:Rat}:jk x y=true↔x<=y:=by
 unfold jk gr
 rw[decide_eq_true_iff]
 by_cases h1:x<y
 ·rw[if_pos h1];exact⟨fun _=>Rat.le_of_lt h1,fun _=>by decide⟩
 ·rw[if_neg h1]
  by_cases h2:y<x
  ·rw[if_pos h2];exact⟨fun h=>absurd h (by decide),fun h=>by grind⟩
  ·rw[if_neg h2];exact⟨fun _=>by grind,fun _=>by decide⟩
theorem Wj:cm P Ng:=jh (aM Zd (aM GP (aM u6 gU)))
theorem Hq:bF P CL 104:=fk fun⟨⟨n,c⟩,⟨⟨x,y⟩,t⟩,_⟩ K hn=>by
 have hW:=dc
 obtain⟨h1,h2,h3⟩:=hn
 have h1:0<n:=h1
 have h2:n<2^40:=h2
 have hrd:∀i,i<n->bg (aO (c i)) (aO (b7 (aO (c i)))):=fun i _=>.refl _
 refine cB hT Wj hm aeY rfl br rfl 60 Zv (fun _=>?_) K []
 simp only[af.all,aF,Bool.not_eq_true',Bool.not_eq_false',bI,bO]
 refine⟨⟨aa,.refl _,.refl _⟩,fun hb=>iV ?_,fun hb=>?_⟩
 ·show false=(jk x y&&_)
  rw[show jk x y=false from hb];rfl
 ·obtain⟨k1,k2⟩:=h3 hb
  refine⟨⟨aa,aa,aa,aa⟩,fun he=>⟨⟨aa,hrd,.refl _,.refl _,h1,h2,k1,k2⟩,iV ?_⟩,fun he=>⟨⟨aa,aa,hrd,aa,aa,h1,h2,k1,k2⟩,iV ?_⟩⟩
  ·show jL n c x y=(jk x y&&(if x=y then _ else _))
   rw[show jk x y=true from hb,if_pos he]
   unfold jL
   rw[if_pos he];rfl
  ·show(fR n c x y==1)=(jk x y&&(if x=y then _ else _))
   rw[show jk x y=true from hb,if_neg he,Bool.true_and]
   by_cases h:fR n c x y=1
   ·rw[decide_eq_true h];exact beq_iff_eq.2 h
   ·rw[decide_eq_false h];exact beq_eq_false_iff_ne.2 h
def ep (n:Nat) (c:Nat->PP) (s:Rat×Rat):Nat->Rat×Rat
 |0=>s
 |j+1=>iB n c (ep n c s j)
def oE (n:Nat) (c:Nat->PP) (w:Rat):Nat->Rat×Rat->Rat×Rat
 |0,s=>s
 |f+1,s=>if w<s.2-s.1 then oE n c w f (iB n c s)else s
def kg (p:PP) (s:Rat×Rat) (w:Rat):Int:=if w<=0 then 7 else if(ak p).1=0 then 3 else if kH (ak p) s=true then 0 else 1
def nR (p:PP) (s:Rat×Rat) (t:Int) (w:Rat):(Rat×Rat)×Int:=if kg p s w=0 then(oE (aV (ak p)) (aS (ak p)) w 200 s,t)else((0,0),0)
def uW (p:PP) (s:Rat×Rat) (w:Rat):Prop:=iU p/\(0<w->(ak p).1≠0->jK (ak p)/\vm (ak p)/\aV (ak p)<2^30/\(ak p).1<2^40/\nW (aV (ak p)) (aS (ak p)) s=kH (ak p) s/\(jk s.1 s.2=true->jx (ak p) s.1/\cJ (aV (ak p)) (aS (ak p)) s.1/\cJ (aV (ak p)) (aS (ak p)) s.2)/\
 (kH (ak p) s=true->∀j,j<=200->w<(ep (aV (ak p)) (aS (ak p)) s j).2-(ep (aV (ak p)) (aS (ak p)) s j).1->j<200/\sC (aV (ak p)) (aS (ak p)) (ep (aV (ak p)) (aS (ak p)) s j)))
theorem adx {x w:Rat}:gr x w>0↔w<x:=by
 unfold gr
 by_cases h1:x<w
 ·rw[if_pos h1];exact⟨fun h=>absurd h (by decide),fun h=>by grind⟩
 ·rw[if_neg h1]
  by_cases h2:w<x
  ·rw[if_pos h2];exact⟨fun _=>h2,fun _=>by decide⟩
  ·rw[if_neg h2];exact⟨fun h=>absurd h (by decide),fun h=>absurd h h2⟩
theorem Xj {w:Rat}:bR w<=0↔w<=0:=by
 rcases(show 0<w\/w<0\/w=0 by grind)with h|h|h
 ·rw[gz h];exact⟨fun h2=>absurd h2 (by decide),fun h2=>by grind⟩
 ·rw[gA h];exact⟨fun _=>by grind,fun _=>by decide⟩
 ·rw[m8 h];exact⟨fun _=>by grind,fun _=>by decide⟩
theorem LF:cm P BJ:=jh (aM AN (aM Bw (aM Hq (aM BS (aM aaj (aM O4 gU))))))
theorem ZY:bg uL (j0 ((0,0),0)):=mY ⟨mY ⟨fh rfl (by decide),fh rfl (by decide),trivial⟩,.refl _,trivial⟩
theorem aam {n:Nat} {c:Nat->PP} {w:Rat} {s:Rat×Rat} (h:¬w<s.2-s.1):∀f,oE n c w f s=s
 |0=>rfl
 |_+1=>if_neg h
theorem PV {p:PP} {s:Rat×Rat} {t:Int} {w:Rat} (h:uW p s w) (K:Nat):aY P 47 K [aO p,j0 (s,t),.rat w ag] [] (aT (.tuple [j0 (nR p s t w),.int .i64 (kg p s w)]) []):=by
 have hW:=dc
 have hV:=HN
 obtain⟨hof,hall⟩:=h
 obtain⟨x,y⟩:=s
 obtain⟨n,hn⟩:∃n,n=aV (ak p):=⟨_,rfl⟩
 obtain⟨c,hc⟩:∃c,c=aS (ak p):=⟨_,rfl⟩
 have hrd:∀i,i<aV (ak p)->bg (aO (aS (ak p) i)) (aO (b7 (aO (aS (ak p) i)))):=fun i _=>.refl _
 have rOK:∀{e:Int},e≠0->kg p (x,y) w=e->∀us:List AV,bV us=[]->Cl T f47 [6,7,5] (.tuple [j0 (nR p (x,y) t w),.int .i64 (kg p (x,y) w)]) ([.ptr 8192 0 7 0 [],.int .i64 e,.ptr 4096 0 3 0 []]++us,[(4096,⟨false,true,3,1,fun _=>.rat w ag⟩),(8192,⟨false,true,7,1,fun j=>if(j==0)=true then dM (.agg uL.kids)else uL⟩)]):=fun {e} he er us hu=>by
  refine⟨[.ptr 8192 0 7 0 [],.int .i64 e,.ptr 4096 0 3 0 []],us,200000,_,rfl,rfl,hu,aeV,rfl,⟨⟨aa,fun _ _=>rfl⟩,⟨aa,fun _ _=>RK rfl rfl⟩,trivial⟩,?_⟩
  simp only[af.all,aF]
  rw[er,show nR p (x,y) t w=((0,0),0)from if_neg (by rw[er];exact he)]
  exact⟨aa,ZY,.refl _,trivial⟩
 refine ja (r:=aT (.tuple [j0 (nR p (x,y) t w),.int .i64 (kg p (x,y) w)]) []) hT IW rfl br rfl (fun _ cx h0=>?_) K []
 have hk:=oD h0
 refine aA.qp hT LF hm [1,1,1,1,1,1,0] (i:=1) (y:=part wP [1,1,1,1,1,1,0,0,0]) (z:=part wP [1,1,1,1,1,1,1]) ah ah ah IW.dst hk (f1:=[13,18,28]) (f2:=[45]) 60 zu 3
  (fun _:Nat=>Dx n c) (fun j=>C3 w (ep n c (x,y) j) t) (fun j=>j<=200/\kg p (x,y) w=0/\0<w/\(ak p).1≠0/\kH (ak p) (x,y)=true/\oE n c w (200-j) (ep n c (x,y) j)=oE n c w 200 (x,y)) (fun j=>kg p (x,y) w=0/\ep n c (x,y) j=oE n c w 200 (x,y)) (fun j=>200-j)
  (Cl T f47 [6,7,5] (.tuple [j0 (nR p (x,y) t w),.int .i64 (kg p (x,y) w)])) ⟨_,S0,?_⟩ (fun j hj=>⟨_,T8,?_⟩) (fun j hj=>?_) (fun v s' hv hs'=>hv.fin (L1:=[9,10]) hk hs')
 ·simp only[af.all,aF,bI,bO,Bool.not_eq_true',Bool.not_eq_false',Xj]
  refine⟨⟨mG,hof⟩,⟨aa,aa⟩,fun hw0=>⟨aa,rOK (e:=7) (by decide) (if_pos hw0) [.tuple [],.tuple []] rfl⟩,fun hw0=>⟨fun hz=>?_,fun hz=>?_⟩⟩
  ·have hz':(ak p).1=0:=by have hz:((ak p).1:Int)=0:=eq_of_beq hz;omega
   exact⟨aa,rOK (e:=3) (by decide) (by unfold kg;rw[if_neg hw0,if_pos hz']) [.tuple [],.tuple []] rfl⟩
  ·have hz':(ak p).1≠0:=fun h0=>beq_eq_false_iff_ne.1 hz (show((ak p).1:Int)=0 by omega)
   have hw1:0<w:=by grind
   obtain⟨k1,k1e,k2,k3,k4,k5,k6⟩:=hall hw1 hz'
   refine⟨⟨mG (a:=ak p),k1⟩,⟨aa,hrd,.refl _,.refl _,Nat.succ_pos _,by show aV (ak p)<_;omega,fun hl=>⟨(k5 hl).2.1,(k5 hl).2.2⟩⟩,fun hf=>?_,fun hf=>?_⟩
   ·have hf:nW (aV (ak p)) (aS (ak p)) (x,y)=false:=hf
    rw[k4]at hf
    exact⟨aa,rOK (e:=1) (by decide) (by unfold kg;rw[if_neg hw0,if_neg hz',hf];rfl) [gB (aV (ak p)) (aS (ak p)),.tuple []] rfl⟩
   ·have hf:nW (aV (ak p)) (aS (ak p)) (x,y)=true:=hf
    rw[k4]at hf
    have he:kg p (x,y) w=0:=by unfold kg;rw[if_neg hw0,if_neg hz',hf];rfl
    have hxy:x<=y:=by
     have:(jk x y&&(if x=y then decide (cC (ak p) x=0)else decide (fR (aV (ak p)) (aS (ak p)) x y=1)))=true:=hf
     exact vE.1 (Bool.and_eq_true _ _▸this).1
    have e1:gj x y=x:=if_neg (by grind)
    have e2:fQ x y=y:=by unfold fQ;split<;>grind
    refine⟨⟨aa,aa,aa,aa,aa,aa⟩,0,⟨Nat.zero_le _,he,hw1,hz',hf,rfl⟩,[(0,8192),(1,4096),(2,131072)],rfl,by rw[hn,hc];rfl,rfl,kW rfl rfl (.inr ⟨rfl,?_⟩) (fq (fq trivial))⟩
    show bg (j0 ((gj x y,fQ x y),t)) (j0 ((x,y),t))
    rw[e1,e2];exact .refl _
 ·obtain⟨j1,j2,j3,j4,j5,j6⟩:=hj
  obtain⟨k1,k1e,k2,k3,k4,k5,k6⟩:=hall j3 j4
  have k6:=k6 j5 j j1
  rw[<-hn,<-hc]at k6
  have hrd2:∀i,i<n->bg (aO (c i)) (aO (b7 (aO (c i)))):=fun i _=>.refl _
  simp only[af.all,aF,bI,bO,adx]
  refine⟨⟨aa,.refl _,.refl _,aa,aa,aa⟩,fun hb=>?_,fun hb=>⟨rfl,j,⟨j2,?_⟩,[(0,0),(1,1),(2,2)],rfl,rfl,rfl,fq (fq (fq trivial))⟩⟩
  ·obtain⟨i1,i2⟩:=k6 hb
   refine⟨⟨aa,hrd2,.refl _,.refl _,i2,aa⟩,j+1,⟨aa,j2,j3,j4,j5,?_⟩,by dsimp only;omega,[(0,0),(1,1),(2,2)],rfl,rfl,rfl,fq (fq (fq trivial))⟩
   rw[<-j6,show 200-j=(200-(j+1))+1 by omega]
   conv=>rhs;unfold oE
   rw[if_pos (show w<(ep n c (x,y) j).2-(ep n c (x,y) j).1 from hb)];rfl
  ·rw[<-j6,aam (show¬w<(ep n c (x,y) j).2-(ep n c (x,y) j).1 from hb)]
 ·obtain⟨j1,j2⟩:=hj
  refine aA.oQ ((aI.fin hT LF hm 60 aa6 ah ?_).mono fun _ _ h=>.inl h)
  simp only[af.all,aF]
  refine⟨⟨aa,aa⟩,aa,?_⟩
  rw[j1,show nR p (x,y) t w=(oE (aV (ak p)) (aS (ak p)) w 200 (x,y),t)from if_pos j1,<-hn,<-hc,<-j2]
  exact⟨.refl _,.refl _,trivial⟩
def Kt:Spec:=eR (kC (kL ag) (kC DF (kC (ic ag) kN))) (fun a=>.tuple [j0 (nR a.1 a.2.1.1 a.2.1.2 a.2.2.1),.int .i64 (kg a.1 a.2.1.1 a.2.2.1)]) fun a=>[uW a.1 a.2.1.1 a.2.2.1]
theorem aaF:bF P Kt 47:=fk fun⟨_,⟨_,_⟩,_,_⟩ K hn=>PV hn K
def Dz (j:Nat) (z:Rat):Prop:=bY ((12*2^j:Nat):Int) (j+12) z
theorem Dz.up {j:Nat} {z:Rat} (h:Dz j z):Dz (j+1) z:=by
 have:=bY.up (E:=2) (e:=1) h (by decide)
 unfold Dz
 rw[Nat.pow_succ,<-Nat.mul_assoc,Int.natCast_mul,show j+1+12=j+12+1 by omega]
 exact this
theorem Dz.mid {j:Nat} {x y:Rat} (hx:Dz j x) (hy:Dz j y):Dz (j+1) (bE x y):=by
 obtain⟨z,h1,h2⟩:=bY.add hx hy
 refine⟨z,?_,by rw[show j+1+12=j+12+1 by omega];exact h2⟩
 have e:((12*2^(j+1):Nat):Int)=((12*2^j:Nat):Int)*2:=by rw[Nat.pow_succ];omega
 rw[h1,e,Rat.intCast_mul]
 unfold bE
 generalize (((12*2^j:Nat):Int):Rat)=D
 rw[show((2:Int):Rat)=2 from rfl];grind
theorem mZ (j:Nat):((12*2^j:Nat):Int)≠0/\((12*2^j:Nat):Int).natAbs<=2^(j+12):=by
 have:=Nat.pow_pos (n:=j) (show 0<2 by decide)
 refine⟨aa,?_⟩
 rw[Int.natAbs_natCast,Nat.pow_add,Nat.mul_comm]
 exact Nat.mul_le_mul_left _ (by decide)
theorem Dz.sz {j:Nat} {z:Rat} (h:Dz j z) (hj:j<=cj+1000):Sz z ag:=by
 have hD:=nD
 have hW:=dc
 exact(bY.sz (mZ j).1 (mZ j).2 h).more aa
theorem Dz.ch {c:PP} (hc:ck c) {j:Nat} {z:Rat} (h:Dz j z) (hj:j<=cj+1000):cJ (aV c) (aS c) z:=by
 have hD:=nD
 exact DC hc h (mZ j).2 (mZ j).1 aa
theorem Dz.va {c:PP} (hc:ck c) {j:Nat} {z:Rat} (h:Dz j z) (hj:j<=cj+1000):jx c z:=by
 have hD:=nD
 have hW:=dc
 exact DA hc.bd h (mZ j).2 (mZ j).1 hc.len aa
theorem Dy.dz {z:Rat} (h:Dy z):∃j,j<=cj/\Dz j z:=by
 obtain⟨j,h1,h2⟩:=h
 refine⟨j,h1,?_⟩
 have:=h2.up (E:=12) (e:=4) (by decide)
 unfold Dz
 rw[Int.natCast_mul,Int.mul_comm]
 exact this.more aa
theorem Dz.zT {j:Nat} {z:Rat} (h:Dz j z):∀m,Dz (j+m) z
 |0=>h
 |m+1=>(Dz.zT h m).up
theorem abA {n:Nat} {c:Nat->PP} {s:Rat×Rat} (h:s.1<=s.2):(iB n c s).1<=(iB n c s).2/\(iB n c s).2-(iB n c s).1<=(s.2-s.1)*(1/2):=by
 unfold iB bE
 split
 ·exact⟨by grind,by grind⟩
 ·split
  ·exact⟨by grind,by grind⟩
  ·exact⟨by grind,by grind⟩
theorem aaH {n:Nat} {c:Nat->PP} {s:Rat×Rat} {j:Nat} (h1:Dz j s.1) (h2:Dz j s.2):Dz (j+1) (iB n c s).1/\Dz (j+1) (iB n c s).2:=by
 unfold iB
 split
 ·exact⟨h1.mid h2,h1.mid h2⟩
 ·split
  ·exact⟨h1.up,h1.mid h2⟩
  ·exact⟨h1.mid h2,h2.up⟩
theorem zE {n:Nat} {c:Nat->PP} {s:Rat×Rat} {J:Nat} (h:s.1<=s.2) (h1:Dz J s.1) (h2:Dz J s.2):∀j,Dz (J+j) (ep n c s j).1/\Dz (J+j) (ep n c s j).2/\(ep n c s j).1<=(ep n c s j).2/\((ep n c s j).2-(ep n c s j).1)*T2 j<=s.2-s.1
 |0=>⟨h1,h2,h,by unfold T2;rw[Rat.pow_zero,Rat.mul_one];exact Rat.le_refl⟩
 |j+1=>by
  obtain⟨a,b,d,e⟩:=zE (n:=n) (c:=c) h h1 h2 j
  obtain⟨k1,k2⟩:=abA (n:=n) (c:=c) d
  obtain⟨k3,k4⟩:=aaH (n:=n) (c:=c) a b
  refine⟨k3,k4,k1,?_⟩
  show((iB n c (ep n c s j)).2-(iB n c (ep n c s j)).1)*T2 (j+1)<=_
  rw[nC]
  have hT:=jO j
  have:=Rat.mul_nonneg (a:=((ep n c s j).2-(ep n c s j).1)*(1/2)-((iB n c (ep n c s j)).2-(iB n c (ep n c s j)).1)) (b:=T2 j) (by grind) (by grind)
  grind
theorem aco {p:PP} {s:Rat×Rat} {w:Rat} {J:Nat} (hof:iU p) (hg:(ak p).1≠0->ck (ak p)) (h1:Dz J s.1) (h2:Dz J s.2) (hJ:J<=cj) (hs:s.2-s.1<=4096) (hw:0<w->1<=w*64):uW p s w:=by
 refine⟨hof,fun h0 hp=>?_⟩
 have hc:=hg hp
 have hsm:=wj hc
 have hJ0:J<=cj+1000:=Nat.le_trans hJ (Nat.le_add_right _ _)
 refine⟨(qH hc).1,(qH hc).2,aa,by have:=hc.len;omega,?_,fun _=>⟨h1.va hc hJ0,h1.ch hc hJ0,h2.ch hc hJ0⟩,fun hf j hj hlt=>?_⟩
 ·unfold nW kH
  rw[decide_eq_decide.2 (tT hc)]
 ·have hle:s.1<=s.2:=vE.1 (Bool.and_eq_true _ _▸(show(jk s.1 s.2&&(if s.1=s.2 then decide (cC (ak p) s.1=0)else decide (fR (aV (ak p)) (aS (ak p)) s.1 s.2=1)))=true from hf)).1
  obtain⟨a,b,d,e⟩:=zE (n:=aV (ak p)) (c:=aS (ak p)) hle h1 h2 j
  have hw1:=hw h0
  have hJ1:J+j<=cj+1000:=Nat.le_trans (Nat.add_le_add hJ hj) (Nat.add_le_add_left (by decide) _)
  have hJ2:J+j+1<=cj+1000:=Nat.le_trans (Nat.add_le_add_right (Nat.add_le_add hJ hj) 1) (Nat.add_le_add_left (show 200+1<=1000 by decide) _)
  generalize ep (aV (ak p)) (aS (ak p)) s j=u at*
  refine⟨?_,Nat.succ_pos _,aa,by grind,a.ch hc hJ1,(a.mid b).ch hc hJ2,(a.mid b).sz hJ2⟩
  refine Decidable.byContradiction fun hn=>?_
  have t18:T2 18=262144:=by unfold T2;decide+kernel
  have hT:=jq (show 18<=j by omega)
  have:=Rat.mul_nonneg (a:=u.2-u.1) (b:=T2 j-T2 18) (by grind) (by grind)
  rw[t18]at this
  grind
theorem Ik {c:PP} (hc:ck c) {s:Rat×Rat} (hs:s∈jQ cj (aV c) (aS c)):0<=s.1/\s.2<=1:=by
 unfold jQ at hs
 rcases List.mem_append.1 hs with hs|hs
 ·rcases List.mem_append.1 hs with hs|hs
  ·split at hs
   ·rw[List.mem_singleton]at hs;subst hs;exact⟨Rat.le_refl,by decide⟩
   ·cases hs
  ·have:=ya hc cj (show(0:Rat)<1 by decide) s hs
   exact⟨this.2.2.1,this.2.2.2⟩
 ·split at hs
  ·rw[List.mem_singleton]at hs;subst hs;exact⟨by decide,Rat.le_refl⟩
  ·cases hs
theorem abE {p:PP} {w:Rat} (hof:iU p) (hg:(ak p).1≠0->ck (ak p)) {i:Nat} (hi:i<(pU cj p).length) (hw:0<w->1<=w*64):uW p (bN (pU cj p) i) w:=by
 rw[u9 hg]at hi ⊢
 by_cases h0:(ak p).1=0
 ·rw[show dO cj p=[]from if_pos h0]at hi;exact absurd hi (Nat.not_lt_zero _)
 ·have e:dO cj p=jQ cj (aV (ak p)) (aS (ak p)):=if_neg h0
  rw[e]at hi ⊢
  have hm:=CC hi
  obtain⟨a,b⟩:=EH hm
  obtain⟨u,v⟩:=Ik (hg h0) hm
  obtain⟨j,j1,j2⟩:=a.dz
  obtain⟨k,k1,k2⟩:=b.dz
  have a2:=j2.zT (max j k-j)
  have b2:=k2.zT (max j k-k)
  rw[show j+(max j k-j)=max j k by omega]at a2
  rw[show k+(max j k-k)=max j k by omega]at b2
  exact aco hof hg a2 b2 (Nat.max_le.2 ⟨j1,k1⟩) (by grind) hw
end Go.Am.B
