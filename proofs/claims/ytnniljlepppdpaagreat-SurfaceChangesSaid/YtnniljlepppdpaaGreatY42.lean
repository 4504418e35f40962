/- How long the polar forms of drawn splines at drawn gb are (plain). -/
import Derived.Test.YtnniljlepppdpaaGreatY40
import Derived.Test.YtnniljlepppdpaaGreatY41
import Derived.Test.YtnniljlepppdpaaGreatY38
import Derived.Test.YtnniljlepppdpaaGreatY37
import Derived.Test.YtnniljlepppdpaaGreatY39
import Derived.Test.YtnniljlepppdpaaGreatZ2
import Derived.TacticsIn
set_option linter.unusedVariables false
noncomputable section
namespace Go.Am.B
open Go
def LQ:Int:=144403552893600
theorem Zf:∀v:Nat,v<33->v≠0->v∣144403552893600:=by decide
theorem GF {v:Int} (h:v.natAbs<33) (h0:v≠0):∃w:Int,LQ=v*w/\w.natAbs<=144403552893600:=by
 obtain⟨w,e⟩:=Zf v.natAbs h aa
 have hw:w<=144403552893600:=by
  rw[e];exact Nat.le_mul_of_pos_left _ aa
 rcases Int.natAbs_eq v with g|g
 ·refine⟨w,?_,by simpa using hw⟩
  rw[g]
  show(144403552893600:Int)=((v.natAbs:Nat):Int)*((w:Nat):Int)
  rw[<-Int.natCast_mul,<-e];rfl
 ·refine⟨-(w:Int),?_,by simpa using hw⟩
  rw[g]
  show(144403552893600:Int)=-((v.natAbs:Nat):Int)*(-((w:Nat):Int))
  rw[Int.neg_mul_neg,<-Int.natCast_mul,<-e];rfl
def k7 (t:Rat):Prop:=∃z:Int,t=(z:Rat)/2/\-4<=z/\z<=28
def ff (r:Nat) (x:Rat):Prop:=∃z:Int,(z:Rat)=x*((LQ^(r+1):Int):Rat)/\z.natAbs<=2^(53+54*r)
theorem aba {r:Nat}:((LQ^r:Int):Rat)≠0:=fun h=>by
 have h:((LQ^r:Int):Rat)=((0:Int):Rat):=h
 have:=Rat.intCast_inj.1 h
 exact absurd this (Int.pow_ne_zero (by decide))
theorem ff.sz {r:Nat} {x:Rat} (h:ff r x):Sz x (102+102*r):=by
 obtain⟨z,e,b⟩:=h
 have hx:x=(z:Rat)/((LQ^(r+1):Int):Rat):=by rw[e,Rat.div_def,Rat.mul_assoc,Rat.mul_inv_cancel _ aba,Rat.mul_one]
 rw[hx]
 have s1:Sz (z:Rat) (54+54*r):=lU (Nat.lt_of_le_of_lt b (Nat.pow_lt_pow_right (by decide) aa)) aa
 have s2:Sz ((LQ^(r+1):Int):Rat) (48*(r+1)):=lU (by
  rw[Int.natAbs_pow,Nat.pow_mul]
  exact Nat.pow_lt_pow_left (by decide) aa) aa
 exact(s1.div s2).more aa
theorem ff.up {r:Nat} {x:Rat} (h:ff r x):ff (r+1) x:=by
 obtain⟨z,e,b⟩:=h
 refine⟨z*LQ,?_,?_⟩
 ·rw[Rat.intCast_mul,e,Int.pow_succ LQ (r+1),Rat.intCast_mul,Rat.mul_assoc]
 ·rw[Int.natAbs_mul,show 53+54*(r+1)=(53+54*r)+54 by omega,Nat.pow_add]
  exact Nat.mul_le_mul b (by decide)
theorem ff.xB {x:Rat} (h:Sz x 5):ff 0 x:=by
 obtain⟨h1,h2⟩:=h
 obtain⟨w,e,hw⟩:=GF (v:=(x.den:Int)) (by simpa using by omega) (by have:=x.den_nz;omega)
 refine⟨x.num*w,?_,?_⟩
 ·rw[show LQ^(0+1)=(x.den:Int)*w by rw[<-e];rfl,Rat.intCast_mul,Rat.intCast_mul,<-Rat.mul_assoc]
  congr 1
  have hd:((x.den:Int):Rat)≠0:=by exact_mod_cast x.den_nz
  have hx:x=(x.num:Rat)/((x.den:Int):Rat):=by rw[<-Rat.divInt_eq_div,Rat.num_divInt_den]
  have key:x*((x.den:Int):Rat)=(x.num:Rat):=by
   conv=>lhs;lhs;rw[hx]
   exact Rat.div_mul_cancel hd
  exact key.symm
 ·rw[Int.natAbs_mul]
  exact Nat.le_trans (Nat.mul_le_mul (show x.num.natAbs<=32 by omega) hw) (by decide)
theorem ff.mix {r:Nat} {x y a b t:Rat} (ha:k7 a) (hb:k7 b) (ht:k7 t) (hx:ff r x) (hy:ff r y):ff (r+1) (x+fr a b t*(y-x)):=by
 obtain⟨za,a1,a2,a3⟩:=ha
 obtain⟨zb,b1,b2,b3⟩:=hb
 obtain⟨zt,t1,t2,t3⟩:=ht
 have e1:b-a=((zb-za:Int):Rat)/2:=by rw[a1,b1,Rat.intCast_sub,Rat.div_def,Rat.div_def,Rat.div_def];grind
 have e2:t-a=((zt-za:Int):Rat)/2:=by rw[a1,t1,Rat.intCast_sub,Rat.div_def,Rat.div_def,Rat.div_def];grind
 by_cases hv:zb-za=0
 ·have:fr a b t=0:=by
   unfold fr
   rw[e1,hv,Rat.div_def,show((0:Int):Rat)/2=0 by decide+kernel,Rat.inv_zero,Rat.mul_zero]
  rw[this,Rat.zero_mul,Rat.add_zero]
  exact hx.up
 ·have hvq:((zb-za:Int):Rat)≠0:=fun h=>hv (Rat.intCast_inj.1 (show((zb-za:Int):Rat)=((0:Int):Rat)from h))
  have hf:fr a b t*((zb-za:Int):Rat)=((zt-za:Int):Rat):=by
   unfold fr
   have hn:b-a≠0:=by
    rw[e1]
    intro h
    apply hvq
    have:((zb-za:Int):Rat)=((zb-za:Int):Rat)/2*2:=by rw[Rat.div_mul_cancel (by decide)]
    rw[this,h,Rat.zero_mul]
   have h2:((zb-za:Int):Rat)=(b-a)*2:=by rw[e1,Rat.div_mul_cancel (by decide)]
   have h3:((zt-za:Int):Rat)=(t-a)*2:=by rw[e2,Rat.div_mul_cancel (by decide)]
   rw[h2,h3,<-Rat.mul_assoc,Rat.div_mul_cancel hn]
  obtain⟨w,hw,wb⟩:=GF (v:=zb-za) aa hv
  obtain⟨zx,x1,x2⟩:=hx
  obtain⟨zy,y1,y2⟩:=hy
  refine⟨zx*LQ+(zt-za)*w*(zy-zx),?_,?_⟩
  ·have hL:fr a b t*(LQ:Rat)=(((zt-za)*w:Int):Rat):=by
    rw[hw,Rat.intCast_mul,Rat.intCast_mul,<-Rat.mul_assoc,hf]
   rw[Rat.intCast_add,Rat.intCast_mul,Rat.intCast_mul ((zt-za)*w),<-hL,Rat.intCast_sub,x1,y1,Int.pow_succ LQ (r+1),Rat.intCast_mul]
   generalize ((LQ^(r+1):Int):Rat)=m
   generalize (LQ:Rat)=l
   generalize fr a b t=f
   grind
  ·have c1:(zy-zx).natAbs<=2^(53+54*r)+2^(53+54*r):=aa
   have c2:((zt-za)*w).natAbs<=32*144403552893600:=by
    rw[Int.natAbs_mul];exact Nat.mul_le_mul aa wb
   have c3:((zt-za)*w*(zy-zx)).natAbs<=32*144403552893600*(2^(53+54*r)+2^(53+54*r)):=by
    rw[Int.natAbs_mul];exact Nat.mul_le_mul c2 c1
   have c4:(zx*LQ).natAbs<=2^(53+54*r)*144403552893600:=by
    rw[Int.natAbs_mul];exact Nat.mul_le_mul x2 aY
   have c5:=Int.natAbs_add_le (zx*LQ) ((zt-za)*w*(zy-zx))
   rw[show 53+54*(r+1)=(53+54*r)+54 by omega,Nat.pow_add]
   generalize 2^(53+54*r)=B at*
   omega
theorem Q7 {k:Nat->Rat} {b p:Nat} (hk:∀i,k7 (k i)):∀{l:List Rat} {r s:Nat} {x:Nat->Rat},(∀t∈l,k7 t)->(∀j,ff s (x j))->∀j,ff (s+l.length) (bl k b p r x l j)
 |[],_,_,_,_,hx,j=>hx j
 |t::l,r,s,x,hl,hx,j=>by
  rw[bl,List.length_cons,show s+(l.length+1)=s+1+l.length by omega]
  refine Q7 hk (fun u hu=>hl u (List.mem_cons_of_mem _ hu)) (fun q=>?_) j
  unfold iA
  split
  ·exact(hx _).mix (hk _) (hk _) (hl t (List.mem_cons_self ..)) (hx _)
  ·exact(hx _).up
theorem aea {k x:Nat->Rat} {p P:Nat} {l:List Rat} (hk:∀i,k7 (k i)) (hl:∀t∈l,k7 t) (hx:∀j,ff 0 (x j)):ff l.length (IF k p x P l):=by
 have:=Q7 (b:=P-p) (p:=p) (r:=0) hk hl (fun j=>hx (P-p+j)) p
 rwa [Nat.zero_add]at this
theorem R3 {f:Nat->Rat} {C:Rat->Prop} (h:∀i,C (f i)):∀{l a:Nat},∀t∈cS f a l,C t
 |0,_,t,ht=>by simp[cS]at ht
 |l+1,a,t,ht=>by
  rw[cS,List.mem_cons]at ht
  rcases ht with rfl|ht
  ·exact h a
  ·exact R3 h t ht
def mE (r n:Nat) (x:Rat):Prop:=∃z:Int,(z:Rat)=x*((LQ^(r+2):Int):Rat)/\z.natAbs<=n*(2^48*2^(53+54*r))
theorem mE.zero {r:Nat}:mE r 0 0:=⟨0,by rw[Rat.zero_mul];rfl,by simp⟩
theorem mE.next {r n:Nat} {x y:Rat} {q:Int} (hq:1<=q) (hq7:q<=7) (h:mE r n x) (hy:ff r y):mE r (n+1) (x+((1:Int):Rat)/(q:Rat)*y):=by
 obtain⟨zx,x1,x2⟩:=h
 obtain⟨zy,y1,y2⟩:=hy
 obtain⟨w,hw,wb⟩:=GF (v:=q) aa aa
 have hqq:(q:Rat)≠0:=fun h=>by
  have:=Rat.intCast_inj.1 (show(q:Rat)=((0:Int):Rat)from h)
  omega
 refine⟨zx+w*zy,?_,?_⟩
 ·have hL:((1:Int):Rat)/(q:Rat)*(LQ:Rat)=(w:Rat):=by
   rw[hw,Rat.intCast_mul,<-Rat.mul_assoc,Rat.div_mul_cancel hqq]
   exact Rat.one_mul _
  rw[Rat.intCast_add,Rat.intCast_mul,<-hL,x1,y1,Int.pow_succ LQ (r+1),Rat.intCast_mul]
  generalize ((LQ^(r+1):Int):Rat)=m
  generalize (LQ:Rat)=l
  generalize ((1:Int):Rat)/(q:Rat)=f
  grind
 ·have c1:(w*zy).natAbs<=2^48*2^(53+54*r):=by
   rw[Int.natAbs_mul];exact Nat.mul_le_mul (Nat.le_trans wb (by decide)) y2
  have c2:=Int.natAbs_add_le zx (w*zy)
  rw[Nat.succ_mul]
  omega
theorem mE.is {r n:Nat} {x:Rat} (h:mE r n x) (hn:n<=7):ff (r+1) x:=by
 obtain⟨z,e,b⟩:=h
 refine⟨z,e,Nat.le_trans b ?_⟩
 have h:n*(2^48*2^(53+54*r))<=7*(2^48*2^(53+54*r)):=Nat.mul_le_mul hn aY
 refine Nat.le_trans h ?_
 rw[show 53+54*(r+1)=(53+54*r)+54 by omega,Nat.pow_add 2 (53+54*r) 54,<-Nat.mul_assoc,Nat.mul_comm (2^(53+54*r))]
 exact Nat.mul_le_mul (by decide) aY
open Go Go.Am.N AV ah ax IntKind
theorem Ib {t:Rat} (h:oQ t):k7 t:=h
theorem acd {c:Cu} {P e:Nat} {g:Nat->Rat} (hc:Kn c.n c.p.toNat c.k) (hp1:1<=c.p) (hm2:(c.m:Int)=(c.n:Int)-c.p-1) (hA:At c.n c.k P):
  hH c (P:Nat) c.p.toNat g e=IF c.k c.p.toNat (fun i=>gP (c.f i) e) P (cS g 0 c.p.toNat):=by
 obtain⟨w1,w2⟩:=hc.OY hA
 have hw:=hA.wide
 have hE:iF c.n c.k c.p.toNat c.m c.p.toNat (P:Nat)=0:=Dp aa rfl (by
  rw[bn]
  rintro(h|h|h)
  ·omega
  ·omega
  ·exact absurd h (Rat.not_le.2 hw))
 unfold hH nk
 rw[if_pos hE,bn,Nd];rfl
theorem NW:k7 0:=⟨0,by decide+kernel,by decide,by decide⟩
theorem Ke {k:Nat->Rat} {n:Nat} (h:∀i,k7 (k i)):∀{m q:Nat},k7 (cR k n m q)
 |0,_=>NW
 |m+1,q=>by
  rw[cR]
  split
  ·exact Ke h
  ·exact h m
theorem akR {f:Nat->Rat} {i m q:Nat} (h:∀i,k7 (f i)):k7 (lg f i m q):=by
 unfold lg
 split
 ·exact NW
 ·split
  ·exact h _
  ·exact h _
theorem AJ {r:Nat} {q:Int} {x:Nat->Pl} (hq:1<=q) (hq7:q<=7) (hx:∀i e,ff r (gP (x i) e)):∀{n:Nat} (e:Nat),mE r n (gP (jG (((1:Int):Rat)/(q:Rat)) x n) e)
 |0,0=>mE.zero
 |0,1=>mE.zero
 |0,2=>mE.zero
 |0,_+3=>mE.zero
 |n+1,0=>(AJ hq hq7 hx (n:=n) 0).next hq hq7 (hx n 0)
 |n+1,1=>(AJ hq hq7 hx (n:=n) 1).next hq hq7 (hx n 1)
 |n+1,2=>(AJ hq hq7 hx (n:=n) 2).next hq hq7 (hx n 2)
 |n+1,e+3=>(AJ hq hq7 hx (n:=n) 3).next hq hq7 (hx n 3)
theorem tS {c:Cu} {j w:Nat} (hc:jj c w) (hq0:∀i e,ff 0 (gP (cP (c.f i)) e)) (hh:∀i,oQ (c.k i)) (hj:j<(mJ (fZ c)).m) (e:Nat):ff 7 (gP ((mJ (fZ c)).f j) e):=by
 obtain⟨k1,k2,k3,k4,k5⟩:=id hc.kn
 have hN:Ak (fZ c)=c.n+bS c.k c.n c.n:=rfl
 have hK:=B4 k1
 have hj:j<Ak (fZ c)-(c.p.toNat+1)-1:=hj
 rw[hN]at hj
 have hsup:=hK.KX (j:=j) aa
 obtain⟨s,hs⟩:∃s,s=fC (cR c.k c.n c.n) (c.n+bS c.k c.n c.n) j:=⟨_,rfl⟩
 obtain⟨g1,g2,g3⟩:j<=s/\s<j+(c.p.toNat+1+1)/\cR c.k c.n c.n s<cR c.k c.n c.n (s+1):=by
  rw[hs]
  exact KN (n:=c.n+bS c.k c.n c.n) (k:=cR c.k c.n c.n) (pc:=ng (cR c.k c.n c.n) (c.n+bS c.k c.n c.n)) (fun _=>rfl) (fun _ _=>rfl) hsup aa aa
 have hA:=R8 k1 (i:=s) aa g3
 obtain⟨P,hP⟩:∃P,P=fI c.n c.k (cR c.k c.n c.n s):=⟨_,rfl⟩
 rw[<-hP]at hA
 have hx:∀i e,ff c.p.toNat (gP (iX (fZ c) (P:Nat) (c.p.toNat+1) (cR c.k c.n c.n) j i) e):=fun i e=>by
  have key:∀e,ff c.p.toNat (hH (fZ c) (P:Nat) c.p.toNat (fun u=>lg (fun v=>cR c.k c.n c.n (v+(j+1))) i (c.p.toNat+1) u) e):=fun e=>by
   rw[acd (c:=fZ c) k1 k2 k5 hA]
   have:=aea (k:=c.k) (x:=fun i=>gP (cP (c.f i)) e) (p:=c.p.toNat) (P:=P) (l:=cS (fun u=>lg (fun v=>cR c.k c.n c.n (v+(j+1))) i (c.p.toNat+1) u) 0 c.p.toNat) (fun i=>Ib (hh i)) (R3 fun u=>akR fun v=>Ke fun i=>Ib (hh i)) (fun j=>hq0 j e)
   rwa [rV]at this
  match e with
  |0=>exact key 0
  |1=>exact key 1
  |2=>exact key 2
  |e+3=>exact key 3
 have hS:=(AJ (q:=c.p+1) aa aa hx (n:=c.p.toNat+1) e).is aa
 have up:∀{r s:Nat} {x:Rat},ff r x->ff (r+s) x:=fun {r s x} h=>by
  induction s with
  |zero=>exact h
  |succ s ih=>exact ih.up
 have hS:=up (s:=6-c.p.toNat) hS
 rw[show c.p.toNat+1+(6-c.p.toNat)=7 by omega]at hS
 have ef:(mJ (fZ c)).f j=jG (((1:Int):Rat)/((c.p+1:Int):Rat)) (iX (fZ c) (P:Nat) (c.p.toNat+1) (cR c.k c.n c.n) j) (c.p.toNat+1):=by
  rw[hP,hs];rfl
 rw[ef]
 exact hS
theorem aga {t:Rat} (h:k7 t):Sz t 2000:=by
 obtain⟨z,e,h1,h2⟩:=h
 rw[e]
 exact((lU (x:=z) (n:=5) aa (by decide)).div (lU (x:=2) (n:=2) (by decide) (by decide))).more (by decide)
theorem H8 {x y:Rat} (hx:ff 7 x) (hy:ff 7 y):Sz (x/y) 2000:=(hx.sz.div hy.sz).more (by decide)
theorem Pc {P:Program} {f:FuncId} {K:Nat} {args us vs:List AV} {l l':List Prop} (hf:aQ P f K args [] ⟨.tuple us,[],l⟩) (hl:aA l'->aA l) (hk:bI us=[]) (hle:fq us vs):aQ P f K args [] ⟨.tuple vs,[],l'⟩:=by
 intro need
 obtain⟨h1,h2⟩:=hf (hl need)
 refine⟨fun k o ho=>by simp[look]at ho,fun c D D' β w vs hw0 hMw hrel hD hK hv=>(h2 c D D' β w vs hw0 hMw hrel hD hK hv).mono ?_⟩
 rintro x w' ⟨β',g1,g2,xs,rfl,g3⟩
 exact⟨β',g1,g2,xs,rfl,(zM hle (g3.bE hk)).mono (fun b o h1 h2=>⟨h2,h1⟩) (β':=β') fun k x hx=>by simp[bE]at hx⟩
structure z5 (c:Cu):Prop where
 k:∀i,i<c.n->Sz (c.k i) 2000
 x:∀i,i<c.m->Sz (c.f i).n.x 2000
 y:∀i,i<c.m->Sz (c.f i).n.y 2000
 z:∀i,i<c.m->Sz (c.f i).n.z 2000
 d:∀i,i<c.m->Sz (c.f i).d 2000
theorem z5.up {c:Cu} {x y:Nat} (h:z5 c):bN (bV c x y) (bV c 2000 2000):=
 b7 ⟨.refl _,dS fun i hi=>dn rfl (h.k i hi),dS fun i hi=>b7 ⟨b7 ⟨dn rfl (h.x i hi),dn rfl (h.y i hi),dn rfl (h.z i hi),trivial⟩,dn rfl (h.d i hi),trivial⟩,trivial⟩
theorem jj.YI {c:Cu} {s:Nat} (h:jj c s) (hs:s<=1000):z5 c:=
 ⟨fun i _=>(h.kd i).sz.more (by decide),fun i _=>(h.x i).1.more aa,fun i _=>(h.x i).2.1.more aa,fun i _=>(h.x i).2.2.more aa,fun i _=>(h.sd i).more aa⟩
structure xl (c:Cu):Prop where
 d:jj c 20
 h:∀i,oQ (c.k i)
 q:∀i e,ff 0 (gP (cP (c.f i)) e)
theorem SD {c:Cu} (hb:xl c):z5 (eH c):=by
 obtain⟨hc,hh,hq⟩:=hb
 unfold eH
 split
 ·exact⟨fun i hi=>absurd hi (Nat.not_lt_zero i),fun i hi=>absurd hi (Nat.not_lt_zero i),fun i hi=>absurd hi (Nat.not_lt_zero i),fun i hi=>absurd hi (Nat.not_lt_zero i),fun i hi=>absurd hi (Nat.not_lt_zero i)⟩
 ·exact⟨fun i _=>aga (Ke fun i=>Ib (hh i)),fun i hi=>H8 (tS hc hq hh hi 0) (tS hc hq hh hi 3),fun i hi=>H8 (tS hc hq hh hi 1) (tS hc hq hh hi 3),fun i hi=>H8 (tS hc hq hh hi 2) (tS hc hq hh hi 3),fun i hi=>(tS hc hq hh hi 3).sz.more (by decide)⟩
theorem OB:aT P zD m7 (ay m7):=aU Proofs.Tryz.func35 ag ag ag
theorem XG:aT P Lw GL (ay GL):=aU Proofs.Tryz.func37 ag ag ag
theorem Y8:aT P CK DV (ay DV):=aU Proofs.Tryz.func39 ag ag ag
theorem Xe:aT P Ie B1 (ay B1):=aU Proofs.Tryz.func41 ag ag ag
abbrev cE (s:Sf) (j:Nat):Cu:=⟨s.u,s.a,s.ku,s.n,fun i=>s.f i j⟩
abbrev fQ (s:Sf) (i:Nat):Cu:=⟨s.v,s.b,s.kv,s.m,fun j=>s.f i j⟩
structure dr (s:Sf):Prop where
 ok:gd s
 z:lV s
 c:∀j,xl (cE s j)
 r:∀i,xl (fQ s i)
 iy:s.a<=20
 ig:s.b<=20
def tY:Sf:=⟨0,0,0,fun _=>0,0,fun _=>0,0,0,fun _ _=>⟨⟨0,0,0⟩,0⟩⟩
def fT (F:Cu->Cu) (s:Sf):Sf:=⟨(F (cE s 0)).p,s.v,(F (cE s 0)).n,(F (cE s 0)).k,s.b,s.kv,(F (cE s 0)).m,s.m,fun i j=>(F (cE s j)).f i⟩
def fF (s:Sf) (t:Rat):Sf:=if cV (cE s 0) t=0 then fT (fun c=>gj c t) s else tY
def Ig:Spec:=fun K args pre=>match args with
 |[_,.func _ (_::_)]=>cq (kC (gy 2000 2000) (kC (LZ (gN 2000)) kN)) (fun a=>aZ (qi true a.2.1.2 a.1) 4200 (bX+bX)) (fun a=>[a.2.1.1=pX,j6 (cC a.1 0),1<=a.1.m,a.1.m<2^28,a.1.b<2^28,1<=a.1.n]) K args pre
 |_=>cq (kC (gy 2000 2000) (kC (kF uM) kN)) (fun a=>aZ (qi false 0 a.1) 4200 (bX+bX)) (fun a=>[j6 (cC a.1 0),1<=a.1.m,a.1.m<2^28,a.1.b<2^28,1<=a.1.n]) K args pre
def RB:bf:=[(alx,iz T (nG::QA) [200005] 60 VE)]
def Dt:bf:=nG::(By,Jd)::(Dj,Ig)::(y5,vw)::(Fj,MF)::(RB++iR)
abbrev uS:List Nat:=[4,5,2,3]
theorem ank {s:Sf} {t:Rat}:aG T Dt [21,10,29,38] 60 uS (before (ay m7) [1,1,1]) ⟨aP 0 [aZ s 2000 2000,.rat t 2000],[],0⟩=
  let c24:AV:=int i64 0;let c23:AV:=rat t 2000;let c22:Nat:=Int.toNat (0:Int);let c20:Nat:=(aV (aZ s 2000 2000)).size;let c19:Prop:=bt (fun i=>rat (s.ku i) 2000) s.a sJ;let c18:Prop:=bt (fun i=>rat (s.kv i) 2000) s.b sJ;let c17:Prop:=ec (fun i=>bH (s.f i) s.m 2000) s.n sJ;let c15:Int:=(↑(cL (fun i=>aL (rat (s.ku i) 2000)) t s.a):Int);let c14:Prop:=2000<2^42;let c10:Prop:=Max.max 2000 2000<2^42;let c9:Int:=(↑s.a:Int)-1;let c8:AV:=ptr 8192 0 5 0 [];let c7:Prop:=gd (Sf.mk s.u s.v s.a (fun i=>aL (rat (s.ku i) 2000)) s.b (fun i=>aL (rat (s.kv i) 2000)) s.n (fW (bH (s.f 0) s.m 2000)) (jo fun i=>bH (s.f i) s.m 2000));let c6:Prop:=0<1;let c16:Int:=eV t (sD (s.ku c22) (s.ku c9.toNat));let c12:Nat×ak:=(4096,ak.mk false true (aV c23).size 1 fun x=>c23);let c11:AV:=agg [c24,c24,nil,nil,nil];let c5:Int:=eV t (uw (s.ku c22) (s.ku c9.toNat));let c4:Nat×ak:=(0,ak.mk false true c20 1 fun x=>aZ s 2000 2000);let c3:List AV:=[ptr 0 0 c20 0 [],ptr 4096 0 (aV c23).size 0 []];let c13:Bool:=bif !true then true else decide (c5<=0);let c1:List (Nat×ak):=[c12,c4,(8192,ak.mk false true 5 1 fun j=>if(j==0)=true then aV (agg c11.kids)else c11)];let c21:ah (List AV×aE):=aj [c6] (leaf ret (c8::int i64 7::c3,c1));let c2:ah (List AV×aE):=aj [c6,c6,bt (fun i=>rat (s.ku i) 2000) s.a sK,(2000:Nat)<=sK,s.a<2^40,c6] (fork (decide (c15>=s.u)) (aj [c6] (leaf ret (c8::int i64 5::c3,c1))) (aj [c6] (fork (decide ((↑s.n:Int)>=40)) (aj [c6] (leaf ret (c8::int i64 2::c3,c1))) (leaf normal (c8::c24::c3,[c12,c4,(8192,ak.mk false true 5 1 fun x=>c11)])))));some (aj [c6,((↑s.a:Int)==0)=false,(0:Int)<=0/\c22<s.a,-(2:Int)^63<=c9/\c9<2^63,(0:Int)<=c9/\c9.toNat<s.a,c6,c6,c6,c6] (fork c13 (aj [c6,c19,c18,c17,c7,c6,c6,c14,c10,c13=true] (fork true c21 c2)) (aj [c6,c19,c18,c17,c7,c6,c6,c14,c10,c13=false,c6,c6,c14,c10] (fork (bif false then true else decide (c16>=0)) c21 c2)))):=ag
theorem adD {s:Sf} {t:Rat}:cj T Dt [] 60 m7 [part (ay m7) [1,1,1]] ⟨aB uS [.ptr 0 0 5 0 [],.int .i64 0,.ptr 1 0 5 0 [],.b6 (.rat t 2000)],[(2,⟨false,false,3,1,fun _=>.rat t 2000⟩),(1,⟨false,true,5,1,fun _=>aZ s 2000 2000⟩),(0,⟨false,true,5,1,fun _=>.agg [.int .i64 0,.int .i64 0,.nil,.nil,.nil]⟩)],3⟩=
  let o:Prop:=0<1;some (aj [o,bt (fun i=>.rat (s.ku i) 2000) s.a 2000,bt (fun i=>.rat (s.kv i) 2000) s.b 2000,ec (fun i=>bH (s.f i) s.m 2000) s.n 2000,2000<=2000,pX=pX,j6 (cC s 0),1<=s.m,s.m<2^28,s.b<2^28,1<=s.n,o] (aj [o] (leaf .ret [aZ (qi true t s) 4200 (bX+bX),.int .i64 0]))):=ag
theorem aa7 {s:Sf}:bU T Dt [200008,200004,200014] 60 DV (ay DV) ⟨aP 0 [aZ s 2000 2000],[],0⟩=
  let o:Prop:=0<1;let R:=fun x=>bt (fun i=>.rat (s.ku i) 2000) s.a x;let H:=fun x=>bt (fun i=>.rat (s.kv i) 2000) s.b x;let W:=fun x=>ec (fun i=>bH (s.f i) s.m 2000) s.n x;let l:Int:=(s.n:Int)+(cK s.ku s.a:Int);let z:=l-1;some (aj [o,decide (s.u>=6)=false,o,R sJ,H sJ,W sJ,gd s] (aj [(bif false then true else !true)=false] (aj [o,o,R sJ,s.a<2^40,-2^63<=l/\l<2^63,-2^63<=z/\z<2^63] (aj [decide (z>40)=false] (aj [o,R 2000,H 2000,W 2000,j6 (cC s 0),1<=s.m,s.m<2^28,s.b<2^28,1<=s.n,o] (aj [o] (leaf .ret [aZ (qi false 0 s) 4200 (bX+bX),.int .i64 0]))))))):=ag
theorem anx {s:Sf} {t:Rat} {e:Int}:jt T m7 .ret ⟨aB uS [.ptr 8192 0 5 0 [],.int .i64 e,.ptr 0 0 5 0 [],.ptr 4096 0 3 0 []],[(4096,tP t 2000),(0,⟨false,true,5,1,fun _=>aZ s 2000 2000⟩),(8192,⟨false,true,5,1,fun j=>if(j==0)=true then aV (.agg (AV.kids (.agg [.int .i64 0,.int .i64 0,.nil,.nil,.nil])))else .agg [.int .i64 0,.int .i64 0,.nil,.nil,.nil]⟩)],8193⟩=
  some (aj [(0:Nat)<1] (leaf ret [agg [int i64 0,int i64 0,nil,nil,nil],int i64 e])):=ag
theorem ady:bu P RB:=aI (iU hT (cz aaf) hm (aU Proofs.Tryz.func127 ag ag ag) _ _) bz
theorem ajE:aW P Ig Dj:=fun K args pre q h=>by
 unfold Ig at h
 split at h
 ·refine ck (fun⟨s,⟨g,t⟩,_⟩ K hn=>?_) K _ pre q h
  obtain⟨rfl,h1,h2,h3,h4,h5⟩:g=pX/\j6 (cC s 0)/\1<=s.m/\s.m<2^28/\s.b<2^28/\1<=s.n:=hn
  exact Ou (b:=true) h1 h2 h3 h4 h5 K
 ·refine ck (fun⟨s,_,_⟩ K hn=>?_) K _ pre q h
  obtain⟨h1,h2,h3,h4,h5⟩:j6 (cC s 0)/\1<=s.m/\s.m<2^28/\s.b<2^28/\1<=s.n:=hn
  exact Ou (b:=false) (t:=0) h1 h2 h3 h4 h5 K
theorem HT:bu P Dt:=cz (aI PE (aI ajE (aI Oq (aI Qu (s8 ady jU)))))
theorem U1 {es n m:Nat} {f g:Nat->AV} (h:n=m) (H:∀i,i<n->bN (f i) (g i)):bN (.aq es n f) (.aq es m g):=by
 subst h;exact dS H
structure jI (F:Cu->Cu) (b:Bool) (t:Rat) (s:Sf):Prop where
 p:∀j,(fB b t (cC s j)).p=(F (cE s j)).p
 n:∀j,(fB b t (cC s j)).n=(F (cE s j)).n
 k:∀j i,(fB b t (cC s j)).k i=(F (cE s j)).k i
 m:∀j,(fB b t (cC s j)).m=(F (cE s j)).m
 f:∀j i,i<(F (cE s j)).m->dU ((fB b t (cC s j)).f i)=(F (cE s j)).f i
 s:∀j,z5 (F (cE s j))
theorem jI.mm {F:Cu->Cu} {b:Bool} {t:Rat} {s:Sf} (h:jI F b t s) (j:Nat):(F (cE s j)).m=(F (cE s 0)).m:=by
 rw[<-h.m,<-h.m,BQ,BQ]
theorem jI.S {F:Cu->Cu} {b:Bool} {t:Rat} {s:Sf} (h:jI F b t s) (hz:lV s):lV (fT F s):=by
 have e:∀{i j:Nat},i<(F (cE s 0)).m->i<(F (cE s j)).m:=fun {i j} hi=>by rw[h.mm j];exact hi
 exact⟨(h.s 0).k,hz.kv,fun i j hi _=>(h.s j).x i (e hi),fun i j hi _=>(h.s j).y i (e hi),fun i j hi _=>(h.s j).z i (e hi),fun i j hi _=>(h.s j).d i (e hi)⟩
theorem jI.up {F:Cu->Cu} {b:Bool} {t:Rat} {s:Sf} {x y:Nat} (h:jI F b t s) (hz:lV s):bN (aZ (qi b t s) x y) (aZ (fT F s) 2000 2000):=by
 have hS:=h.S hz
 refine b7 ⟨bK (h.p 0),.refl _,U1 (h.n 0) fun i hi=>?_,dS fun i hi=>dn rfl (hz.kv i hi),U1 (h.m 0) fun i hi=>dS fun j hj=>?_,trivial⟩
 ·have hi:i<(F (cE s 0)).n:=by rw[<-h.n 0];exact hi
  exact dn (h.k 0 i) ((h.s 0).k i hi)
 ·have hi0:i<(F (cE s 0)).m:=by rw[<-h.m 0];exact hi
  have hi:i<(F (cE s j)).m:=by rw[h.mm j];exact hi0
  have e:=h.f j i hi
  show bN (bh (dU ((fB b t (cC s j)).f i)) y) (bh ((F (cE s j)).f i) 2000)
  rw[e]
  exact b7 ⟨b7 ⟨dn rfl ((h.s j).x i hi),dn rfl ((h.s j).y i hi),dn rfl ((h.s j).z i hi),trivial⟩,dn rfl ((h.s j).d i hi),trivial⟩
theorem zu {s:Sf} {t:Rat} (hs:dr s) (ht:ej t) (he:cV (cE s 0) t=0):jI (fun c=>gj c t) true t s:=by
 have hm0:(s.n:Int)=(s.a:Int)-s.u-1:=hs.ok.n
 have hkn:∀j,kJ (cE s j):=fun j=>(hs.c j).d.kn
 have he':∀j,cV (cE s j) t=0:=fun j=>he
 have hR:∀j,gj (cE s j) t=uB (cE s j) t (cM s.a s.ku t):=fun j=>if_pos (he' j)
 obtain⟨e1,e2,e3,e4⟩:=RJ he
 obtain⟨h1,h2,h3,h4,h5⟩:=hkn 0
 obtain⟨a1,a2,a3⟩:=Jj h1 e1 e2
 have hu1:1<=s.u:=h2
 refine⟨fun j=>by rw[hR];rfl,fun j=>by rw[hR];rfl,fun j i=>?_,fun j=>?_,fun j i hi=>?_,fun j=>((hs.c j).d.ins ht (he' j)).YI (by decide)⟩
 ·rw[hR]
  show dK s.ku t (dB s.ku t s.a) i=_
  rw[JV h1.sorted a1 a2 a3];rfl
 ·rw[hR]
  show s.a+1-s.u.toNat-1=s.n+1
  omega
 ·rw[hR]at hi ⊢
  exact congrArg dU (ais (hkn j) e1 e2 a1 a2 a3 e3 (show i<s.n+1 from hi))
theorem wW {s:Sf} (hs:dr s) (h5:s.u<=5):jI eH false 0 s:=by
 have hR:∀j,eH (cE s j)=Hv (mJ (fZ (cE s j))):=fun j=>if_neg (show¬6<=s.u by omega)
 exact⟨fun j=>by rw[hR];rfl,fun j=>by rw[hR];rfl,fun j i=>by rw[hR];rfl,fun j=>by rw[hR];rfl,fun j i _=>by rw[hR];rfl,fun j=>SD (hs.c j)⟩
theorem ML (s:Sf):(aV (aZ s 2000 2000)).size=5:=ag
theorem Ug (t:Rat):(aV (.rat t 2000)).size=3:=ag
theorem MD {x y:Nat}:bN (.agg [.int .i64 0,.int .i64 0,.nil,.nil,.nil]) (aZ tY x y):=b7 ⟨.refl _,.refl _,ic aa,ic aa,ic aa,trivial⟩
set_option maxHeartbeats 1000000 in
theorem aec {s:Sf} {t:Rat} (hs:dr s) (ht:ej t) (K:Nat):aQ P zD K [aZ s 2000 2000,.rat t 2000] [] (aJ (.tuple [aZ (fF s t) 2000 2000,.int .i64 (cV (cE s 0) t)]) []):=by
 refine fc (r:=aJ (.tuple [aZ (fF s t) 2000 2000,.int .i64 (cV (cE s 0) t)]) []) hT OB rfl aX rfl (fun _ cx h00=>?_) K []
 have hk:=gV h00
 obtain⟨ku,kv,u0,u6,v0,v6,ha,hb,hn,hm2,hw⟩:=id hs.ok
 have iy:=hs.iy
 have ig:=hs.ig
 have la:=ku.len
 have lb:=kv.len
 have pu:=ku.p1
 have pv:=kv.p1
 have e1:((s.a:Int)-1).toNat=s.a-1:=aa
 have hle:s.ku 0<=s.ku (s.a-1):=ku.mono (Nat.zero_le _) aa
 have hmin:uw (s.ku 0) (s.ku (s.a-1))=s.ku 0:=by unfold uw;split<;>grind
 have hmax:sD (s.ku 0) (s.ku (s.a-1))=s.ku (s.a-1):=by unfold sD;split<;>grind
 have lv:fW (bH (s.f 0) s.m 2000)=s.m:=rfl
 have hr:∀e:Int,cV (cE s 0) t=e->e≠0->ou T m7 uS (.tuple [aZ (fF s t) 2000 2000,.int .i64 (cV (cE s 0) t)]) ([.ptr 8192 0 5 0 [],.int .i64 e,.ptr 0 0 5 0 [],.ptr 4096 0 3 0 []],
   [(4096,tP t 2000),(0,⟨false,true,5,1,fun _=>aZ s 2000 2000⟩),(8192,⟨false,true,5,1,fun j=>if(j==0)=true then aV (.agg (AV.kids (.agg [.int .i64 0,.int .i64 0,.nil,.nil,.nil])))else .agg [.int .i64 0,.int .i64 0,.nil,.nil,.nil]⟩)]):=fun e he h0=>by
  refine⟨[_,_,_,_],[],8193,_,rfl,rfl,rfl,anx,rfl,⟨⟨aa,fun i _=>rfl⟩,⟨aa,fun i _=>rfl⟩,⟨aa,fun i _=>nQ rfl rfl⟩,trivial⟩,?_⟩
  simp only[ah.all,aA]
  refine⟨Nat.zero_lt_one,?_,bK he.symm,trivial⟩
  rw[show fF s t=tY from if_neg (by rw[he];exact h0)]
  exact MD
 refine au.hole [1,1,1] ag (aH.bC hT HT hm 60 uS ank (mS OB.dst) ?_)
 simp only[ah.all,aA,bq,bw,Bool.not_true,cond_false,e1,Int.toNat_zero,hmin,hmax,lv,ML,Ug]
 have m1:max 2000 2000<2^42:=by decide
 have hout:¬(s.ku 0<t/\t<s.ku (s.a-1))->cV (cE s 0) t=7:=fun h=>if_pos h
 refine⟨⟨aa,beq_eq_false_iff_ne.2 aa,aa,aa,aa,aa,aa,aa,aa⟩,
  fun h1=>⟨⟨aa,bP (by decide),bP (by decide),gh (by decide),hs.ok,aa,aa,aa,m1,h1⟩,fun _=>⟨aa,fun s' hs'=>(hr 7 (hout fun g=>Rat.not_lt.2 (J1.1 h1) g.1) (by decide)).fin (L1:=[]) hk hs'⟩,fun h=>absurd h (by decide)⟩,
  fun h1=>⟨⟨aa,bP (by decide),bP (by decide),gh (by decide),hs.ok,aa,aa,aa,m1,h1,aa,aa,aa,m1⟩,fun h2=>⟨aa,fun s' hs'=>(hr 7 (hout fun g=>Rat.not_lt.2 (yE.1 h2) g.2) (by decide)).fin (L1:=[]) hk hs'⟩,
   fun h2=>⟨⟨aa,aa,bP (by decide),by decide,aa,aa⟩,fun h3=>⟨aa,fun s' hs'=>(hr 5 ?_ (by decide)).fin (L1:=[]) hk hs'⟩,fun h3=>⟨aa,fun h4=>⟨aa,fun s' hs'=>(hr 2 ?_ (by decide)).fin (L1:=[]) hk hs'⟩,fun h4 s' hs'=>?_⟩⟩⟩⟩
 all_goals have hi:s.ku 0<t/\t<s.ku (s.a-1):=⟨Rat.not_le.1 fun g=>h1 (J1.2 g),Rat.not_le.1 fun g=>h2 (yE.2 g)⟩
 ·exact(if_neg (fun g=>g hi)).trans (if_pos h3)
 ·exact(if_neg (fun g=>g hi)).trans ((if_neg h3).trans (if_pos (show 40<=s.n by omega)))
 have he:cV (cE s 0) t=0:=(if_neg (fun g=>g hi)).trans ((if_neg h3).trans (if_neg (show¬40<=s.n by omega)))
 rw[show behind (ay m7) [1,1,1]=[]from by kernel_rfl]
 refine au.jn (s2:=⟨aB uS [.ptr 0 0 5 0 [],.int .i64 0,.ptr 1 0 5 0 [],.ptr 2 0 3 0 []],[(2,tP t 2000),(1,⟨false,true,5,1,fun _=>aZ s 2000 2000⟩),(0,⟨false,true,5,1,fun _=>.agg [.int .i64 0,.int .i64 0,.nil,.nil,.nil]⟩)],3⟩) (cU.le ⟨[(0,8192),(1,0),(2,4096)],rfl,rfl,rfl,aC (aC (aC trivial))⟩ hs' hk) ((?_:au P cx m7.ntmps (part (ay m7) [1,1,1]) _ (eo cx (Fin T m7 (.tuple [aZ (fF s t) 2000 2000,.int .i64 (cV (cE s 0) t)])))).mono fun e s' h=>by cases e<;>exact h)
 refine au.L4 (t:=3) (k:=2) rfl rfl rfl rfl rfl ?_
 refine au.gr ((aH.fin hT HT hm 60 adD ag ?_).mono fun _ _ h=>.inl h)
 simp only[ah.all,aA]
 have hc:j6 (cC s 0):=⟨ku,show 1<=s.u by omega,u6,show s.a<2^18 by omega,show s.n<2^18 by omega⟩
 refine⟨⟨aa,bP (by decide),bP (by decide),gh (by decide),by decide,trivial,hc,aa,aa,aa,aa,aa⟩,aa,?_,bK he.symm,trivial⟩
 rw[show fF s t=fT (fun c=>gj c t) s from if_pos he]
 exact(zu hs ht he).up hs.z
def Kx:Spec:=cq (kC (gy 2000 2000) (kC (gN 2000) kN)) (fun a=>.tuple [aZ (fF a.1 a.2.1) 2000 2000,.int .i64 (cV (cE a.1 0) a.2.1)]) fun a=>[dr a.1,ej a.2.1]
def I3:Spec:=cq (kC (gy 2000 2000) kN) (fun a=>.tuple [aZ (fT eH a.1) 2000 2000,.int .i64 0]) fun a=>[dr a.1,a.1.u<=5]
abbrev nT (x:Sf):List Prop:=[bt (fun i=>.rat (x.ku i) 2000) x.a 2000,bt (fun i=>.rat (x.kv i) 2000) x.b 2000,ec (fun i=>bH (x.f i) x.m 2000) x.n 2000]
abbrev lY (x:Sf):List Prop:=nT x++[x.n=0->x.m=0,x.a<2^28,x.b<2^28,x.n<2^28,x.m<2^28,lV x]
def Li:bf:=nG::(Mk,UA)::(zD,Kx)::(CK,I3)::[]
theorem aeK {s:Sf} {t:Rat}:bU T Li [] 60 GL (ay GL) ⟨aP 0 [aZ s 2000 2000,.rat t 2000],[],0⟩=
  let o:Prop:=0<1;let c:=fF (ct s) t;some (aj (o::(lY s++(o::(nT (ct s)++[2000<=2000,dr (ct s),ej t,o])))) (aj (o::(lY c++[o])) (aj [o] (leaf .ret [aZ (ct c) 2000 2000,.int .i64 (cV (cE (ct s) 0) t)])))):=ag
theorem adz {s:Sf}:bU T Li [] 60 B1 (ay B1) ⟨aP 0 [aZ s 2000 2000],[],0⟩=
  let o:Prop:=0<1;let c:=fT eH (ct s);some (aj (o::(lY s++(nT (ct s)++[dr (ct s),s.v<=5,o]))) (aj (o::(lY c++[o])) (aj [o] (leaf .ret [aZ (ct c) 2000 2000,.int .i64 0])))):=ag
theorem QT:aW P Kx zD:=ck fun⟨s,t,_⟩ K hn=>aec hn.1 hn.2 K
theorem T2:aW P I3 CK:=ck fun⟨s,_⟩ K hn=>by
 obtain⟨hs,h5⟩:dr s/\s.u<=5:=hn
 refine bZ (r:=aJ (.tuple [aZ (fT eH s) 2000 2000,.int .i64 0]) []) hT HT hm Y8 rfl aX rfl 60 aa7 (fun _=>?_) K []
 obtain⟨ku,kv,u0,u6,v0,v6,ha,hb,hn,hm2,hw⟩:=id hs.ok
 have iy:=hs.iy
 have ig:=hs.ig
 have la:=ku.len
 have lb:=kv.len
 have pu:=ku.p1
 have pv:=kv.p1
 have hN:=uf (k:=s.ku) (n:=s.a)
 have hc:j6 (cC s 0):=⟨ku,show 1<=s.u by omega,u6,show s.a<2^18 by omega,show s.n<2^18 by omega⟩
 simp only[ah.all,aA]
 (repeat' with_reducible refine And.intro ?_ ?_)
 all_goals first|omega|exact bP (by decide)|exact gh (by decide)|exact hs.ok|exact hc|exact decide_eq_false aa|rfl|skip
 exact⟨(wW hs h5).up hs.z,.refl _,trivial⟩
theorem Ol:bu P Li:=cz (aI ahm (aI QT (aI T2 bz)))
theorem dr.swap {s:Sf} (h:dr s):dr (ct s):=⟨h.ok.swap,h.z.swap,h.r,h.c,h.ig,h.iy⟩
theorem ri {s:Sf} {l:List Prop} (h:aA l):aA (nT s++l):=dD.2 ⟨⟨bP (by decide),bP (by decide),gh (by decide)⟩,h⟩
theorem J9 {s:Sf} {l:List Prop} (h0:s.n=0->s.m=0) (h1:s.a<2^28) (h2:s.b<2^28) (h3:s.n<2^28) (h4:s.m<2^28) (hz:lV s) (h:aA l):aA (lY s++l):=dD.2 ⟨⟨bP (by decide),bP (by decide),gh (by decide),h0,h1,h2,h3,h4,hz⟩,h⟩
theorem dr.lY {s:Sf} {l:List Prop} (hs:dr s) (h:aA l):aA (lY s++l):=by
 have k2:=(hs.c 0).d.kn.2.2.2.2
 have k3:=(hs.r 0).d.kn.2.2.2.2
 have k2:(s.n:Int)=(s.a:Int)-s.u-1:=k2
 have k3:(s.m:Int)=(s.b:Int)-s.v-1:=k3
 have iy:=hs.iy
 have ig:=hs.ig
 have u0:=hs.ok.u0
 have v0:=hs.ok.v0
 have la:=hs.ok.ku.len
 exact J9 (fun h=>by have:=hs.ok.u6;omega) aa aa aa aa hs.z h
theorem jI.lY {F:Cu->Cu} {b:Bool} {t:Rat} {s:Sf} {l:List Prop} (h:jI F b t s) (hs:dr s) (h0:1<=(F (cE s 0)).m) (hl:aA l):aA (lY (fT F s)++l):=by
 obtain⟨z1,z2⟩:=vr (b:=b) (t:=t) (c:=cC s 0)
 rw[h.n]at z1
 rw[h.m]at z2
 have z1:(F (cE s 0)).n<=s.a+s.a+1:=z1
 have z2:(F (cE s 0)).m<=s.a+s.a+1:=z2
 have k3:(s.m:Int)=(s.b:Int)-s.v-1:=(hs.r 0).d.kn.2.2.2.2
 have iy:=hs.iy
 have ig:=hs.ig
 have v0:=hs.ok.v0
 exact J9 (fun g=>absurd (show(F (cE s 0)).m=0 from g) aa) (show(F (cE s 0)).n<2^28 by omega) (show s.b<2^28 by omega) (show(F (cE s 0)).m<2^28 by omega) (show s.m<2^28 by omega) (h.S hs.z) hl
theorem afs {s:Sf} {t:Rat} (he:cV (cE s 0) t=0):1<=(gj (cE s 0) t).m:=by
 rw[show gj (cE s 0) t=uB (cE s 0) t (cM s.a s.ku t)from if_pos he]
 exact Nat.le_add_left _ _
theorem aoq {s:Sf} (hs:dr s) (h5:s.u<=5):1<=(eH (cE s 0)).m:=by
 have k2:(s.n:Int)=(s.a:Int)-s.u-1:=hs.ok.n
 have hg:=B4 hs.ok.ku
 have la:=hg.len
 rw[show eH (cE s 0)=Hv (mJ (fZ (cE s 0)))from if_neg (show¬6<=s.u by omega)]
 show 1<=s.a+bS s.ku s.a s.a-(s.u.toNat+1)-1
 omega
def Uc:Spec:=cq (kC (gy 2000 2000) (kC (gN 2000) kN)) (fun a=>.tuple [aZ (ct (fF (ct a.1) a.2.1)) 2000 2000,.int .i64 (cV (fQ a.1 0) a.2.1)]) fun a=>[dr a.1,ej a.2.1]
theorem acg:aW P Uc Lw:=ck fun⟨s,t,_⟩ K hn=>by
 obtain⟨hs,ht⟩:dr s/\ej t:=hn
 refine bZ (r:=aJ (.tuple [aZ (ct (fF (ct s) t)) 2000 2000,.int .i64 (cV (fQ s 0) t)]) []) hT Ol hm XG rfl aX rfl 60 aeK (fun _=>?_) K []
 simp only[ah.all]
 refine⟨⟨Nat.zero_lt_one,hs.lY ⟨Nat.zero_lt_one,ri ⟨aY,hs.swap,ht,Nat.zero_lt_one⟩⟩⟩,⟨Nat.zero_lt_one,?_⟩,Nat.zero_lt_one,.refl _,.refl _,trivial⟩
 by_cases he:cV (cE (ct s) 0) t=0
 ·rw[show fF (ct s) t=fT (fun c=>gj c t) (ct s)from if_pos he]
  exact(zu hs.swap ht he).lY hs.swap (afs he) Nat.zero_lt_one
 ·rw[show fF (ct s) t=tY from if_neg he]
  exact J9 (fun _=>rfl) (by decide) (by decide) (by decide) (by decide) ⟨fun i hi=>absurd hi (Nat.not_lt_zero i),fun i hi=>absurd hi (Nat.not_lt_zero i),fun i j hi=>absurd hi (Nat.not_lt_zero i),fun i j hi=>absurd hi (Nat.not_lt_zero i),fun i j hi=>absurd hi (Nat.not_lt_zero i),fun i j hi=>absurd hi (Nat.not_lt_zero i)⟩ Nat.zero_lt_one
def PV:Spec:=cq (kC (gy 2000 2000) kN) (fun a=>.tuple [aZ (ct (fT eH (ct a.1))) 2000 2000,.int .i64 0]) fun a=>[dr a.1,a.1.v<=5]
theorem acp:aW P PV Ie:=ck fun⟨s,_⟩ K hn=>by
 obtain⟨hs,h5⟩:dr s/\s.v<=5:=hn
 refine bZ (r:=aJ (.tuple [aZ (ct (fT eH (ct s))) 2000 2000,.int .i64 0]) []) hT Ol hm Xe rfl aX rfl 60 adz (fun _=>?_) K []
 simp only[ah.all]
 exact⟨⟨Nat.zero_lt_one,hs.lY (ri ⟨hs.swap,h5,Nat.zero_lt_one⟩)⟩,⟨Nat.zero_lt_one,(wW hs.swap h5).lY hs.swap (aoq hs.swap h5) Nat.zero_lt_one⟩,Nat.zero_lt_one,.refl _,.refl _,trivial⟩
theorem MU:aT P F0 Gp (ay Gp):=aU Proofs.Tryz.func134 ag ag ag
abbrev gn:Nat:=2000
abbrev sW:Nat:=8000
def O7:AV->Cu
 |.agg [.int _ p,.aq _ n k,.aq _ m f]=>⟨p,n,fun i=>aL (k i),m,fun i=>lS (f i)⟩
 |_=>⟨0,0,fun _=>0,0,fun _=>⟨⟨0,0,0⟩,0⟩⟩
abbrev GJ (c:Nat->Cu) (n s r:Nat):AV:=.aq 3 n (fun i=>bV (c i) s r)
def IW (g:Nat->AV) (n s r:Nat):Prop:=∀i,i<n->bN (g i) (bV (O7 (g i)) s r)
def kCl (s r:Nat):Kind (Nat×(Nat->Cu)):=⟨fun v=>match v with
 |.aq 3 n g=>some ((n,fun i=>O7 (g i)),[IW g n s r])
 |_=>none,fun a=>GJ a.2 a.1 s r,fun {v a q} h hq=>by
  split at h
  ·simp only[az,Prod.mk.injEq]at h
   obtain⟨rfl,rfl⟩:=h
   exact dS hq
  ·simp at h⟩
def Cq (s:Sf) (n:Nat) (c:Nat->Cu):Sf:=⟨s.u,(c 0).p,s.a,s.ku,(c 0).n,(c 0).k,n,(c 0).m,fun i=>(c i).f⟩
abbrev MB (s:Sf) (n:Nat) (c:Nat->Cu) (i:Nat):aE:=[(3,⟨true,true,1,i,fun i=>bH (c i).f (c i).m sW⟩),(5,⟨true,true,3,(c 0).n,fun i=>.rat ((c 0).k i) gn⟩),(4,⟨true,true,3,s.a,fun i=>.rat (s.ku i) gn⟩),(2,⟨false,true,5,1,fun _=>.agg [.int .i64 s.u,.int .i64 (c 0).p,.own 4 3 0 s.a,.own 5 3 0 (c 0).n,.own 3 1 0 i]⟩),(1,BZ),(0,⟨false,true,5,1,fun _=>aZ s gn gn⟩)]
abbrev xM:List Nat:=[1,2,4,5,6]
abbrev K5 (n:Nat) (c:Nat->Cu) (i:Nat):List AV:=[GJ c n gn sW,.ptr 0 0 5 0 [],.ptr 1 0 5 0 [],.ptr 2 0 5 0 [],.int .i64 i]
abbrev uz:Code:=ay Gp
theorem agR {s:Sf} {n:Nat} {c:Nat->Cu}:aG T [nG] [] 60 xM (before uz [1,1,0,1]) ⟨aP 0 [aZ s gn gn,GJ c n gn sW],[],0⟩=
  let c9:Nat:=(aV (aZ s gn gn)).size;let c8:Nat:=0+s.a;let c6:AV:=int i64 0;let c4:Prop:=0<1;let c3:Prop:=0*3<=2^24;let c2:Nat:=Int.toNat (0:Int);let c7:Prop:=(0:Int)<=0/\c2<n;let c5:Nat:=0+(c c2).n;let c1:AV:=agg [c6,c6,nil,nil,nil];some (aj [c4,c7,c3,c4,c8*((56:Nat)+1)*2<=2^47,c3,c7,c5*((56:Nat)+1)*2<=2^47,c4] (leaf normal ([aq 3 n fun i=>agg [int i64 (c i).p,aq 3 (c i).n fun i_1=>rat ((c i).k i_1) 2000,aq 12 (c i).m fun i_1=>bh ((c i).f i_1) 8000],ptr 0 0 c9 0 [],ptr 4096 0 5 0 [],ptr 77824 0 5 0 [],c6],[(69632,ak.mk true true 3 c5 fun i=>rat ((c c2).k (i-0)) 2000),(45056,ak.mk true true 3 c8 fun i=>rat (s.ku (i-0)) 2000),(77824,ak.mk false true 5 1 fun j=>if(j==0)=true then aV (agg ((((c1.kids.set 0 (aV (int i64 s.u))).set 1 (aV (int i64 (c c2).p))).set 2 (aV (own (nat_lit 45055+1) 3 0 c8))).set 3 (aV (own (nat_lit 69631+1) 3 0 c5))))else c1),(4096,ak.mk false true 5 1 fun x=>c1),(0,ak.mk false true c9 1 fun x=>aZ s 2000 2000)]))):=ag
theorem akV {s:Sf} {n i:Nat} {c:Nat->Cu}:aG T [nG] [27] 60 xM [part uz [1,1,0,1,0,0]] ⟨aB xM (K5 n c i),MB s n c i,6⟩=
  let c11:Cu:=c 0;let c10:AV:=ptr 1 0 5 0 [];let c9:AV:=ptr 0 0 5 0 [];let c8:AV:=ptr 2 0 5 0 [];let c7:AV:=rat 0 1;let c6:Nat×ak:=(4,ak.mk true true 3 s.a fun i=>rat (s.ku i) 2000);let c5:Int:=(↑i:Int);let c2:AV:=aq 3 n fun i=>agg [int i64 (c i).p,aq 3 (c i).n fun i_1=>rat ((c i).k i_1) 2000,aq 12 (c i).m fun i_1=>bh ((c i).f i_1) 8000];let c1:List (Nat×ak):=[(1,ak.mk false true 5 1 fun x=>agg [int i64 0,int i64 0,nil,nil,nil]),(0,ak.mk false true 5 1 fun x=>aZ s 2000 2000)];let c13:Int:=c5+1;let c12:Nat:=0+(c c5.toNat).m;let c4:Nat×ak:=(5,ak.mk true true 3 c11.n fun i=>rat (c11.k i) 2000);let c3:AV:=agg [int i64 s.u,int i64 c11.p,own 4 3 0 s.a,own 5 3 0 c11.n,own 3 1 0 i];some (fork (decide (c5<(↑n:Int))) (aj [(0:Nat)<1,(0:Nat)*12<=2^24,(0:Int)<=c5/\c5.toNat<n,c12*((224:Nat)+1)*2<=2^47,(1:Nat)*1<=2^24,(i+1)*((24:Nat)+1)*2<=2^47,(0:Nat)<1] (aj [-(2:Int)^63<=c13/\c13<2^63] (leaf normal ([c2,c9,c10,c8,int i64 c13],(57350,ak.mk true true 1 (i+1) fun i_1=>if i_1<i then bH (c i_1).f (c i_1).m sW else nth [aq 12 c12 fun i=>if i+0<0 then nth [] (agg [agg [c7,c7,c7],c7]) (i+0)else bh ((c c5.toNat).f (i+0-0)) sW] nil (i_1-i+0))::c4::c6::(2,ak.mk false true 5 1 fun j=>if(j==0)=true then agg (c3.kids.set 4 (aV (own (nat_lit 57349+1) 1 0 (i+1))))else c3)::c1)))) (leaf (exit 0) ([c2,c9,c10,c8,int i64 c5],(3,ak.mk true true 1 i fun i=>aq 12 (c i).m fun i_1=>bh ((c i).f i_1) 8000)::c4::c6::(2,ak.mk false true 5 1 fun x=>c3)::c1))):=ag
theorem ah9 {s:Sf} {n i:Nat} {c:Nat->Cu}:cj T [nG] [] 60 Gp [part uz [1,1,1]] ⟨aB xM (K5 n c i),MB s n c i,6⟩=
  let c1:Prop:=0<1;some (aj [c1,c1] (aj [c1] (leaf ret [agg [int i64 s.u,int i64 (c 0).p,aq 3 s.a fun i=>rat (s.ku (i+0)) 2000,aq 3 (c 0).n fun i=>rat ((c 0).k (i+0)) 2000,aq 1 i fun i=>aq 12 (c (i+0)).m fun i_1=>agg [agg [rat ((c (i+0)).f i_1).n.x 8000,rat ((c (i+0)).f i_1).n.y 8000,rat ((c (i+0)).f i_1).n.z 8000],rat ((c (i+0)).f i_1).d 8000]]]))):=ag
theorem aeY {s:Sf} {n:Nat} {c:Nat->Cu} (h1:1<=n) (hn:n<2^30) (ha:s.a<2^30) (hc:(c 0).n<2^30) (hm2:(c 0).m<2^30) (he:∀i,i<n->(c i).m=(c 0).m) (K:Nat):aQ P F0 K [aZ s gn gn,GJ c n gn sW] [] (aJ (aZ (Cq s n c) gn sW) []):=by
 refine fc (r:=aJ (aZ (Cq s n c) gn sW) []) hT MU rfl aX rfl (fun _ cx h00=>?_) K []
 have hk:=gV h00
 have hv:∀{rl:List (Nat×Nat)} {a b l m k:Nat} {u:AV},bp rl 4=some a->bp rl 5=some b->m=s.a->k=(c 0).n->u.isTuple=false->fR (bp rl) u (.own 3 1 0 l)->eZ rl (.agg [.int .i64 s.u,.int .i64 (c 0).p,.own a 3 0 m,.own b 3 0 k,u]) (.agg [.int .i64 s.u,.int .i64 (c 0).p,.own 4 3 0 s.a,.own 5 3 0 (c 0).n,.own 3 1 0 l]):=
  fun h1 h2 h3 h4 h5 h6=>gz ⟨aM,aM,⟨rfl,bW h1 rfl h3⟩,⟨rfl,bW h2 rfl h4⟩,⟨h5,h6⟩,trivial⟩
 refine au.j4 hT (cz bz) hm (x:=uz) [1,1,0,1] (i:=0) (y:=part uz [1,1,0,1,0,0]) (z:=part uz [1,1,1]) ag ag ag MU.dst hk (f1:=[]) (f2:=[27]) 60 xM 6 (fun i:Nat=>K5 n c i) (fun i=>MB s n c i) (fun i=>i<=n) (fun i=>i=n) (fun i=>n-i) (fun _=>False) ⟨_,agR,?_⟩ (fun i hi=>⟨_,akV,?_⟩) (fun i hi=>?_) (fun _ _ h=>h.elim)
 ·simp only[ah.all,aA,Int.toNat_zero]
  exact⟨aa,0,Nat.zero_le _,[(0,0),(1,4096),(2,77824),(4,45056),(5,69632)],rfl,rfl,rfl,fV rfl aa aa (bJ rfl rfl (Nat.zero_add _) (fun _ _=>cB rfl rfl) (bJ rfl rfl (Nat.zero_add _) (fun _ _=>cB rfl rfl)
   (bG rfl rfl (hv rfl rfl (Nat.zero_add _) (Nat.zero_add _) rfl (jd aa)) (aC (aC trivial)))))⟩
 ·simp only[ah.all,aA,bq,bw,bn,Nat.add_zero]
  refine⟨fun h=>?_,fun h=>⟨rfl,i,aa,[(0,0),(1,1),(2,2),(3,3),(4,4),(5,5)],rfl,rfl,rfl,bk (bk (bJ rfl rfl rfl (fun _ _=>cB rfl rfl)
   (bG rfl rfl (hv rfl rfl rfl rfl rfl (bW rfl rfl rfl)) (aC (aC trivial)))))⟩⟩
  have hei:=he i aa
  refine⟨aa,aa,i+1,aa,by dsimp only;omega,[(0,0),(1,1),(2,2),(3,57350),(4,4),(5,5)],rfl,rfl,rfl,bJ rfl rfl rfl (fun k hk=>?_) (bk (bJ rfl rfl rfl (fun _ _=>cB rfl rfl)
   (bG rfl rfl (hv rfl rfl rfl rfl rfl (bW rfl rfl rfl)) (aC (aC trivial)))))⟩
  by_cases h:k<i
  ·rw[if_pos h];exact cB rfl rfl
  ·have:k=i:=aa
   subst this
   rw[if_neg h,Nat.sub_self]
   exact .inr ⟨rfl,nv (Nat.zero_add _) fun j _=>by rw[if_neg (Nat.not_lt_zero _)];rfl⟩
 ·subst hi
  refine au.gr ((aH.fin hT (cz bz) hm 60 ah9 ag ?_).mono fun _ _ h=>.inl h)
  simp only[ah.all,aA]
  exact⟨aa,aa,b7 ⟨.refl _,.refl _,.refl _,.refl _,dS fun j hj=>by rw[Nat.add_zero];exact nv (he j hj) fun _ _=>rfl,trivial⟩⟩
def Pu:Spec:=cq (kC (gy gn gn) (kC (kCl gn sW) kN)) (fun a=>aZ (Cq a.1 a.2.1.1 a.2.1.2) gn sW) fun a=>[1<=a.2.1.1,a.2.1.1<2^30,a.1.a<2^30,(a.2.1.2 0).n<2^30,(a.2.1.2 0).m<2^30,∀i,i<a.2.1.1->(a.2.1.2 i).m=(a.2.1.2 0).m]
theorem YO:aW P Pu F0:=ck fun⟨s,⟨n,c⟩,_⟩ K hn=>aeY hn.1 hn.2.1 hn.2.2.1 hn.2.2.2.1 hn.2.2.2.2.1 hn.2.2.2.2.2 K
theorem ai4:aT P D0 B3 (ay B3):=aU Proofs.Tryz.func137 ag ag ag
theorem aeC:aT P Bz G7 (ay G7):=aU Proofs.Tryz.func43 ag ag ag
def Di:bf:=nG::(RO++nr)
abbrev yy:Code:=ay B3
abbrev LG (n m:Nat) (f g:Nat->Pl) (i:Nat):List AV:=[bH f n sU,bH g m sU,.bool false,.int .i64 i]
theorem afL {n m:Nat} {f g:Nat->Pl}:aG T Di [200010] 60 [0,1,4,5] (before yy [1,1,0,1]) ⟨aP 0 [bH f n sU,bH g m sU],[],0⟩=
  some (aj [((↑n:Int)!=(↑m:Int))=false] (leaf normal ([aq 12 n fun i=>bh (f i) 4294967296,aq 12 m fun i=>bh (g i) 4294967296,AV.bool false,int i64 0],[]))):=ag
theorem alI {n m i:Nat} {f g:Nat->Pl}:aG T Di [14,200029,200042] 60 [0,1,4,5] [part yy [1,1,0,1,0,0]] ⟨aB [0,1,4,5] (LG n m f g i),[],0⟩=
  let c4:Int:=(↑i:Int);let c3:AV:=aq 12 m fun i=>bh (g i) 4294967296;let c2:AV:=aq 12 n fun i=>bh (f i) 4294967296;let c8:Int:=c4+1;let c5:Prop:=(0:Int)<=c4;let c1:Nat:=c4.toNat;let c7:V3:=(f c1).n;let c6:V3:=(g c1).n;some (fork (decide (c4<(↑n:Int))) (aj [c5/\c1<n,c5/\c1<m,decide (c7.x=c6.x)=true,(bif true then decide (c7.y=c6.y)else false)=true,(!bif true then decide (c7.z=c6.z)else false)=false,c5/\c1<n,c5/\c1<m] (aj [(bif false then true else !decide ((f c1).d=(g c1).d))=false] (aj [-(2:Int)^63<=c8/\c8<2^63] (leaf normal ([c2,c3,AV.bool false,int i64 c8],[]))))) (leaf (exit 0) ([c2,c3,AV.bool false,int i64 c4],[]))):=ag
theorem akQ {n m i:Nat} {f g:Nat->Pl}:cj T Di [] 60 B3 [part yy [1,1,1]] ⟨aB [0,1,4,5] (LG n m f g i),[],0⟩=
  some (leaf ret [AV.bool true]):=ag
theorem adW:bu P Di:=cz (s8 agb oy)
theorem aas {n m:Nat} {f g:Nat->Pl} (hn:n<2^30) (hm2:n=m) (he:∀i,i<n->f i=g i) (K:Nat):aQ P D0 K [bH f n sU,bH g m sU] [] (aJ (.bool true) []):=by
 refine ij (r:=aJ (.bool true) []) hT adW hm ai4 rfl aX rfl [1,1,0,1] (i:=0) (y:=part yy [1,1,0,1,0,0]) (z:=part yy [1,1,1]) ag ag ag (f1:=[200010]) (f2:=[14,200029,200042]) (f3:=[]) 60 [0,1,4,5] 0
  (fun i:Nat=>LG n m f g i) (fun _=>[]) (fun i=>i<=n) (fun i=>i=n) (fun i=>n-i) (fun _=>⟨⟨_,afL,?_⟩,fun i h1=>⟨_,alI,?_⟩,fun i h1=>⟨_,akQ,?_⟩⟩) K []
 all_goals try simp only[ah.all,aA,bq,bw,bn]
 ·exact⟨bne_eq_false_iff_eq.2 aa,0,Nat.zero_le _,.vals rfl⟩
 ·refine⟨fun h=>?_,fun h=>⟨rfl,i,aa,.vals rfl⟩⟩
  have e:=he i aa
  exact⟨⟨aa,aa,by rw[e],decide_eq_true (congrArg (fun p:Pl=>p.n.y) e),congrArg (!·) (decide_eq_true (congrArg (fun p:Pl=>p.n.z) e)),aa,aa⟩,congrArg (!·) (decide_eq_true (congrArg (fun p:Pl=>p.d) e)),aa,i+1,aa,by dsimp only;omega,.vals rfl⟩
 ·exact .refl _
def Ox:Spec:=cq (kC (qV sU) (kC (qV sU) kN)) (fun _=>.bool true) fun a=>[a.1.1<2^30,a.1.1=a.2.1.1,∀i,i<a.1.1->a.1.2 i=a.2.1.2 i]
theorem YG:aW P Ox D0:=ck fun _ K hn=>aas hn.1 hn.2.1 hn.2.2 K
def BW:bf:=nG::(G3,Tm)::(D0,Ox)::[]
abbrev AW:Code:=ay G7
abbrev Im (i:Nat):List AV:=[.ptr 0 0 5 0 [],.ptr 1 0 5 0 [],.bool false,.int .i64 i]
abbrev zC (s t:Sf):aE:=[(1,⟨false,true,5,1,fun _=>aZ t sU sU⟩),(0,⟨false,true,5,1,fun _=>aZ s sU sU⟩)]
theorem aai {s t:Sf}:aG T BW [200011,200018,200026,200034,200042] 60 [2,3,4,5] (before AW [1,1,0,1]) ⟨aP 0 [aZ s sU sU,aZ t sU sU],[],0⟩=
  let c4:Nat:=(aV (aZ t sU sU)).size;let c3:Nat:=(aV (aZ s sU sU)).size;let c2:Nat:=2^40;let c1:Prop:=0<1;some (aj [c1,c1,(s.u !=t.u)=false,c1,c1,(bif false then true else s.v !=t.v)=false,c1,c1,bt (fun i=>rat (s.ku i) sU) s.a sU,bt (fun i=>rat (t.ku i) sU) t.a sU,s.a<c2,t.a<c2,(bif false then true else !wu s.a (fun i=>aL (rat (s.ku i) sU)) t.a fun i=>aL (rat (t.ku i) sU))=false,c1,c1,bt (fun i=>rat (s.kv i) sU) s.b sU,bt (fun i=>rat (t.kv i) sU) t.b sU,s.b<c2,t.b<c2,(bif false then true else !wu s.b (fun i=>aL (rat (s.kv i) sU)) t.b fun i=>aL (rat (t.kv i) sU))=false,c1,c1] (aj [(bif false then true else(↑s.n:Int)!=(↑t.n:Int))=false] (leaf normal ([ptr 0 0 c3 0 [],ptr 4096 0 c4 0 [],AV.bool false,int i64 0],[(4096,ak.mk false true c4 1 fun x=>aZ t 4294967296 4294967296),(0,ak.mk false true c3 1 fun x=>aZ s 4294967296 4294967296)])))):=ag
theorem ad8 {s t:Sf} {i:Nat}:aG T BW [47,200061] 60 [2,3,4,5] [part AW [1,1,0,1,0,0]] ⟨aB [2,3,4,5] (Im i),zC s t,2⟩=
  let c5:Prop:=0<1;let c4:AV:=ptr 1 0 5 0 [];let c3:AV:=ptr 0 0 5 0 [];let c2:Int:=(↑i:Int);let c1:List (Nat×ak):=[(1,ak.mk false true 5 1 fun x=>aZ t 4294967296 4294967296),(0,ak.mk false true 5 1 fun x=>aZ s 4294967296 4294967296)];let c6:Int:=c2+1;some (aj [c5] (fork (decide (c2<(↑s.n:Int))) (aj [c5,(0:Int)<=c2/\c2.toNat<s.n,c5,(0:Int)<=c2/\c2.toNat<t.n,ki (fun i=>bh (s.f c2.toNat i) sU) s.m sU,ki (fun i=>bh (t.f c2.toNat i) sU) t.m sU,s.m<2^30,s.m=t.m,∀(i:Nat),i<s.m->lS (bh (s.f c2.toNat i) sU)=lS (bh (t.f c2.toNat i) sU)] (aj [(!true)=false] (aj [-(2:Int)^63<=c6/\c6<2^63] (leaf normal ([c3,c4,AV.bool false,int i64 c6],c1))))) (leaf (exit 0) ([c3,c4,AV.bool false,int i64 c2],c1)))):=ag
theorem aic {s t:Sf} {i:Nat}:cj T BW [] 60 G7 [part AW [1,1,1]] ⟨aB [2,3,4,5] (Im i),zC s t,2⟩=
  some (leaf ret [AV.bool true]):=ag
theorem akx:bu P BW:=cz (aI YN (aI YG bz))
theorem Sq {n m:Nat} {f g:Nat->Rat} (h:n=m) (he:∀i,i<n->f i=g i):wu n f m g=true:=decide_eq_true ⟨h,he⟩
structure JQ (s t:Sf):Prop where
 u:s.u=t.u
 v:s.v=t.v
 a:s.a=t.a
 ku:∀i,i<s.a->s.ku i=t.ku i
 b:s.b=t.b
 kv:∀i,i<s.b->s.kv i=t.kv i
 n:s.n=t.n
 m:s.m=t.m
 f:∀i j,i<s.n->j<s.m->s.f i j=t.f i j
theorem adH {s t:Sf} (h:JQ s t) (hn:s.n<2^30) (hm2:s.m<2^30) (ha:s.a<2^30) (hb:s.b<2^30) (K:Nat):aQ P Bz K [aZ s sU sU,aZ t sU sU] [] (aJ (.bool true) []):=by
 obtain⟨h1,h2,h3,h4,h5,h6,h7,h8,h9⟩:=h
 refine ij (r:=aJ (.bool true) []) hT akx hm aeC rfl aX rfl [1,1,0,1] (i:=0) (y:=part AW [1,1,0,1,0,0]) (z:=part AW [1,1,1]) ag ag ag (f1:=[200011,200018,200026,200034,200042]) (f2:=[47,200061]) (f3:=[]) 60 [2,3,4,5] 2
  (fun i:Nat=>Im i) (fun _=>zC s t) (fun i=>i<=s.n) (fun i=>i=s.n) (fun i=>s.n-i) (fun _=>⟨⟨_,aai,?_⟩,fun i h1=>⟨_,ad8,?_⟩,fun i h1=>⟨_,aic,?_⟩⟩) K []
 all_goals try simp only[ah.all,aA,bq,bw,bn]
 ·exact⟨⟨aa,aa,bne_eq_false_iff_eq.2 h1,aa,aa,bne_eq_false_iff_eq.2 h2,aa,aa,bP aY,bP aY,aa,aa,congrArg (!·) (Sq h3 h4),aa,aa,bP aY,bP aY,aa,aa,congrArg (!·) (Sq h5 h6),aa,aa⟩,bne_eq_false_iff_eq.2 aa,
   0,Nat.zero_le _,[(0,0),(1,4096)],rfl,rfl,rfl,aC (aC trivial)⟩
 ·have re:jv 2 [(0,0),(1,1)] (zC s t) (zC s t):=aC (aC trivial)
  exact⟨aa,fun h=>⟨⟨aa,aa,aa,aa,nw aY,nw aY,hm2,h8,fun j hj=>h9 i j aa hj⟩,rfl,aa,i+1,aa,by dsimp only;omega,[(0,0),(1,1)],rfl,rfl,rfl,re⟩,fun h=>⟨rfl,i,aa,[(0,0),(1,1)],rfl,rfl,rfl,re⟩⟩
 ·exact .refl _
def Ts:Spec:=cq (kC (gy sU sU) (kC (gy sU sU) kN)) (fun _=>.bool true) fun a=>[JQ a.1 a.2.1,a.1.n<2^30,a.1.m<2^30,a.1.a<2^30,a.1.b<2^30]
theorem afw:aW P Ts Bz:=ck fun _ K hn=>adH hn.1 hn.2.1 hn.2.2.1 hn.2.2.2.1 hn.2.2.2.2 K
theorem Kn.ends {n p:Nat} {k:Nat->Rat} (h:Kn n p k):k 0<k (n-1):=by
 have h1:=h.p1
 have hl:=h.len
 have:=h.mult 1 aa aa
 have e1:=h.mono (show 0<=1 by omega) (show 1<n by omega)
 have e2:=h.mono (show 1+p<=n-1 by omega) (show n-1<n by omega)
 grind
theorem Hl {n:Nat} {k:Nat->Rat} {a b:Rat} {i:Nat}:nV n k a b i=a+(k i-k 0)*((k (n-1)-k 0)⁻¹*(b-a)):=by
 unfold nV;rw[Rat.div_def];grind
theorem Kn.abv {n p:Nat} {k:Nat->Rat} {a b:Rat} (h:Kn n p k) (hab:a<b):Kn n p (nV n k a b):=by
 have he:=h.ends
 have hp:0<(k (n-1)-k 0)⁻¹*(b-a):=Rat.mul_pos (Rat.inv_pos.2 (by grind)) (by grind)
 have key:∀i j,k i<=k j->nV n k a b i<=nV n k a b j:=fun i j hij=>by
  rw[Hl,Hl]
  have:=Rat.mul_le_mul_of_nonneg_right (show k i-k 0<=k j-k 0 by grind) (Rat.le_of_lt hp)
  grind
 have keyL:∀i j,k i<k j->nV n k a b i<nV n k a b j:=fun i j hij=>by
  rw[Hl,Hl]
  have:=Rat.mul_lt_mul_of_pos_right (show k i-k 0<k j-k 0 by grind) hp
  grind
 have keyE:∀i j,k i=k j->nV n k a b i=nV n k a b j:=fun i j hij=>by unfold nV;rw[hij]
 exact⟨h.p1,h.len,fun i hi=>key _ _ (h.sorted i hi),fun i hi=>keyE _ _ (h.first i hi),fun i h2 h3=>keyE _ _ (h.last i h2 h3),fun i h2 h3=>keyL _ _ (h.mult i h2 h3)⟩
def Src (k:Nat->Rat) (n Q i:Nat):Prop:=i<n/\i+bS k n i<=Q/\Q<i+1+bS k n (i+1)
theorem Src.val {k:Nat->Rat} {n Q i:Nat} (h:Src k n Q i):cR k n n Q=k i:=nD h.1 h.2.1 h.2.2
theorem Src.next {k:Nat->Rat} {n Q i:Nat} (h:Src k n Q i) (hQ:Q+1<n+bS k n n):Src k n (Q+1) i\/(Src k n (Q+1) (i+1)/\Q+1=i+1+bS k n (i+1)):=by
 obtain⟨h1,h2,h3⟩:=h
 by_cases c:Q+1<i+1+bS k n (i+1)
 ·exact .inl ⟨h1,by omega,c⟩
 ·have hlt:i+1<n:=by
   by_cases e:i+1<n
   ·exact e
   ·have:i+1=n:=by omega
    rw[this]at c
    omega
  have:=(pN (k:=k) (n:=n) (i:=i+1)).1
  exact .inr ⟨⟨hlt,by omega,by omega⟩,by omega⟩
theorem Src.last {k:Nat->Rat} {n Q i:Nat} (h:Src k n Q i) (hQ:Q+2<n+bS k n n) (hw:cR k n n (Q+1)≠cR k n n (Q+2)):Src k n (Q+1) i:=by
 rcases h.next (by omega)with h|⟨h,e⟩
 ·exact h
 ·exfalso
  have hv:=h.val
  obtain⟨h1,h2,h3⟩:=id h
  by_cases c:i+1+1=n\/k (i+1)≠k (i+1+1)
  ·have:=zA (k:=k) c
   exact hw (by rw[hv];exact(nD (k:=k) h1 (by omega) (by omega)).symm)
  ·have hg:=vi (k:=k) c
   have h4:k (i+1)=k (i+1+1):=Classical.not_not.1 fun g=>c (.inr g)
   have:=(pN (k:=k) (n:=n) (i:=i+1+1)).1
   exact hw (by rw[hv,h4];exact(nD (k:=k) (i:=i+1+1) (by omega) (by omega) (by omega)).symm)
section
variable {k:Nat->Rat} {b p:Nat}
end
end Go.Am.B
namespace Go.Am.B
open Go Go.Am.N AV ah ax IntKind
theorem jj.abJ {c:Cu} {s x y:Nat} (h:jj c s) (hs:s<=1000):bN (bV c x y) (bV c 2000 2000):=
 b7 ⟨.refl _,dS fun i hi=>h.ag0 i hi,dS fun i hi=>h.pls hs i hi,trivial⟩
theorem XU {x y z w:Nat}:bN (bV pz x y) (bV pz z w):=
 b7 ⟨.refl _,dS fun i hi=>absurd hi (Nat.not_lt_zero i),dS fun i hi=>absurd hi (Nat.not_lt_zero i),trivial⟩
theorem Sr:aT P yV rK (ay rK):=aU Proofs.Tryz.func38 ag ag ag
theorem aj1:aT P Kp CT (ay CT):=aU Proofs.Tryz.func36 ag ag ag
theorem Qr:aT P Bf Eu (ay Eu):=aU Proofs.Tryz.func42 ag ag ag
theorem abG:aT P L8 EA (ay EA):=aU Proofs.Tryz.func40 ag ag ag
def Nf:Spec:=cq (kC (wH 2000 2000) (kC (gN 2000) kN)) (fun a=>.tuple [bV (gj a.1 a.2.1) 2000 2000,.int .i64 (cV a.1 a.2.1)]) fun a=>[jj a.1 20,ej a.2.1]
def Uy:Spec:=cq (kC (wH 2000 2000) kN) (fun a=>.tuple [bV (eH a.1) 2000 2000,.int .i64 (nJ a.1)]) fun a=>[xl a.1,a.1.n<=20]
def rZ:bf:=nG::(Qd,iz T [nG] [] 60 Kr)::(DU,Nf)::(xL,Uy)::(F0,Pu)::[]
abbrev qH:List Nat:=[2,3,4,5,6,7]
abbrev Iz (i:Nat):List AV:=[.ptr 0 0 5 0 [],.ptr 1 0 3 0 [],.ptr 2 0 5 0 [],.int .i64 0,.own 3 3 0 i,.int .i64 i]
abbrev LF (s:Sf) (t:Rat) (c:Nat->Cu) (i:Nat):aE:=[(3,⟨true,true,3,i,fun i=>bV (c i) 2000 2000⟩),(2,BZ),(1,tP t 2000),(0,⟨false,true,5,1,fun _=>aZ s 2000 2000⟩)]
abbrev xb:Code:=ay rK
abbrev y6:List Nat:=[1,2,3,4,5]
abbrev KM (i:Nat):List AV:=[.ptr 0 0 5 0 [],.ptr 1 0 5 0 [],.int .i64 0,.own 2 3 0 i,.int .i64 i]
abbrev Jt (s:Sf) (c:Nat->Cu) (i:Nat):aE:=[(2,⟨true,true,3,i,fun i=>bV (c i) 2000 2000⟩),(1,BZ),(0,⟨false,true,5,1,fun _=>aZ s 2000 2000⟩)]
abbrev uD:Code:=ay Eu
theorem X6 {s:Sf} {t:Rat}:aG T rZ [] 60 qH (before xb [1,1,0,1]) ⟨aP 0 [aZ s 2000 2000,.rat t 2000],[],0⟩=
  let c3:AV:=rat t 2000;let c2:Nat:=(aV (aZ s 2000 2000)).size;let c1:AV:=int i64 0;some (leaf normal ([ptr 0 0 c2 0 [],ptr 4096 0 (aV c3).size 0 [],ptr 8192 0 5 0 [],c1,nil,c1],[(8192,ak.mk false true 5 1 fun x=>agg [c1,c1,nil,nil,nil]),(4096,ak.mk false true (aV c3).size 1 fun x=>c3),(0,ak.mk false true c2 1 fun x=>aZ s 2000 2000)])):=ag
theorem V7 {s:Sf} {t:Rat} {c:Nat->Cu} {i:Nat}:aG T rZ [14,26] 60 qH [part xb [1,1,0,1,0,0]] ⟨aB qH (Iz i),LF s t c i,4⟩=
  let c10:AV:=int i64 0;let c9:Int:=(↑i:Int);let c8:AV:=ptr 1 0 3 0 [];let c7:AV:=ptr 0 0 5 0 [];let c6:AV:=ptr 2 0 5 0 [];let c4:Prop:=0<1;let c3:Nat×ak:=(3,ak.mk true true 3 i fun i=>agg [int i64 (c i).p,aq 3 (c i).n fun i_1=>rat ((c i).k i_1) 2000,aq 12 (c i).m fun i_1=>bh ((c i).f i_1) 2000]);let c1:List (Nat×ak):=[((1:Nat),aS fun x=>rat t 2000),(0,ak.mk false true 5 1 fun x=>aZ s 2000 2000)];let c14:Int:=c9+1;let c12:List AV:=[own 3 3 0 i,int i64 c9];let c5:AV:=agg [c10,c10,nil,nil,nil];let c2:Cu:=Cu.mk s.v s.b (fun i=>aL (rat (s.kv i) 2000)) s.m fun i=>lS (bh (s.f c9.toNat i) 2000);let c13:Cu:=gj c2 t;let c11:Nat×ak:=(2,ak.mk false true 5 1 fun x=>c5);some (aj [c4] (fork (decide (c9<(↑s.n:Int))) (aj [c4,c4,c4,c4,(0:Int)<=c9/\c9.toNat<s.n,c4,c4,c4,bt (fun i=>rat (s.kv i) 2000) s.b 2000,ki (fun i=>bh (s.f c9.toNat i) 2000) s.m 2000,(2000:Nat)<=2000,jj c2 20,ej t,c4] (fork (cV c2 t !=(0:Int)) (aj [c4] (leaf ret (c7::c8::c6::int i64 (cV c2 t)::c12,c3::(2,ak.mk false true 5 1 fun j=>if(j==0)=true then aV (agg c5.kids)else c5)::c1))) (aj [c4,(1:Nat)*3<=2^24,(i+1)*((56:Nat)+1)*2<=2^47] (aj [-(2:Int)^63<=c14/\c14<2^63] (leaf normal ([c7,c8,c6,c10,own 86020 3 0 (i+1),int i64 c14],(86020,ak.mk true true 3 (i+1) fun i_1=>if i_1<i then bV (c i_1) 2000 2000 else nth [bV c13 2000 2000] (agg [c10,nil,nil]) (i_1-i+0))::c11::c1)))))) (leaf (exit 0) (c7::c8::c6::c10::c12,c3::c11::c1)))):=ag
theorem am0 {s:Sf} {t:Rat} {c:Nat->Cu} {i:Nat}:cj T rZ [] 60 rK [part xb [1,1,1]] ⟨aB qH (Iz i),LF s t c i,4⟩=
  let c3:Prop:=0<1;let c2:Nat:=2^30;let c1:Cu:=c ((0:Nat)+0);some (aj [c3,bt (fun i=>rat (s.ku i) 2000) s.a gn,bt (fun i=>rat (s.kv i) 2000) s.b gn,ec (fun i=>bH (s.f i) s.m 2000) s.n gn,IW (fun i=>bV (c (i+0)) 2000 2000) i gn sW,(1:Nat)<=i,i<c2,s.a<c2,c1.n<c2,c1.m<c2,∀(i_1:Nat),i_1<i->(c (i_1+0)).m=c1.m,c3] (aj [c3] (leaf ret [agg [int i64 s.u,int i64 c1.p,aq 3 s.a fun i=>rat (aL (rat (s.ku i) 2000)) 2000,aq 3 c1.n fun i=>rat (aL (rat (c1.k i) 2000)) 2000,aq 1 i fun i=>aq 12 c1.m fun i_1=>agg [agg [rat (aL (rat ((c (i+0)).f i_1).n.x 2000)) 8000,rat (aL (rat ((c (i+0)).f i_1).n.y 2000)) 8000,rat (aL (rat ((c (i+0)).f i_1).n.z 2000)) 8000],rat (aL (rat ((c (i+0)).f i_1).d 2000)) 8000]],int i64 0]))):=ag
theorem aij {s:Sf}:aG T rZ [] 60 y6 (before uD [1,1,0,1]) ⟨aP 0 [aZ s 2000 2000],[],0⟩=
  let c2:Nat:=(aV (aZ s 2000 2000)).size;let c1:AV:=int i64 0;some (leaf normal ([ptr 0 0 c2 0 [],ptr 4096 0 5 0 [],c1,nil,c1],[(4096,ak.mk false true 5 1 fun x=>agg [c1,c1,nil,nil,nil]),(0,ak.mk false true c2 1 fun x=>aZ s 2000 2000)])):=ag
theorem ad1 {s:Sf} {c:Nat->Cu} {i:Nat}:aG T rZ [12,200023] 60 y6 [part uD [1,1,0,1,0,0]] ⟨aB y6 (KM i),Jt s c i,3⟩=
  let c7:AV:=ptr 1 0 5 0 [];let c6:AV:=ptr 0 0 5 0 [];let c5:AV:=int i64 0;let c4:Int:=(↑i:Int);let c3:Prop:=0<1;let c8:Int:=c4+1;let c2:List (Nat×ak):=[(1,ak.mk false true 5 1 fun x=>agg [c5,c5,nil,nil,nil]),(0,ak.mk false true 5 1 fun x=>aZ s 2000 2000)];let c1:Cu:=Cu.mk s.v s.b (fun i=>aL (rat (s.kv i) 2000)) s.m fun i=>lS (bh (s.f c4.toNat i) 2000);some (aj [c3] (fork (decide (c4<(↑s.n:Int))) (aj [c3,c3,c3,c3,(0:Int)<=c4/\c4.toNat<s.n,c3,c3,bt (fun i=>rat (s.kv i) 2000) s.b 2000,ki (fun i=>bh (s.f c4.toNat i) 2000) s.m 2000,xl c1,s.b<=20,c3] (aj [(nJ c1 !=(0:Int))=false] (aj [c3,(1:Nat)*3<=2^24,(i+1)*((56:Nat)+1)*2<=2^47] (aj [-(2:Int)^63<=c8/\c8<2^63] (leaf normal ([c6,c7,c5,own 81923 3 0 (i+1),int i64 c8],(81923,ak.mk true true 3 (i+1) fun i_1=>if i_1<i then bV (c i_1) 2000 2000 else nth [agg [int i64 (eH c1).p,aq 3 (eH c1).n fun i=>rat ((eH c1).k i) 2000,aq 12 (eH c1).m fun i=>bh ((eH c1).f i) 2000]] (agg [c5,nil,nil]) (i_1-i+0))::c2)))))) (leaf (exit 0) ([c6,c7,c5,own 2 3 0 i,int i64 c4],(2,ak.mk true true 3 i fun i=>agg [int i64 (c i).p,aq 3 (c i).n fun i_1=>rat ((c i).k i_1) 2000,aq 12 (c i).m fun i_1=>bh ((c i).f i_1) 2000])::c2)))):=ag
theorem Wk {s:Sf} {c:Nat->Cu} {i:Nat}:cj T rZ [] 60 Eu [part uD [1,1,1]] ⟨aB y6 (KM i),Jt s c i,3⟩=
  let c3:Prop:=0<1;let c2:Nat:=2^30;let c1:Cu:=c ((0:Nat)+0);some (aj [c3,bt (fun i=>rat (s.ku i) 2000) s.a gn,bt (fun i=>rat (s.kv i) 2000) s.b gn,ec (fun i=>bH (s.f i) s.m 2000) s.n gn,IW (fun i=>bV (c (i+0)) 2000 2000) i gn sW,(1:Nat)<=i,i<c2,s.a<c2,c1.n<c2,c1.m<c2,∀(i_1:Nat),i_1<i->(c (i_1+0)).m=c1.m,c3] (aj [c3] (leaf ret [agg [int i64 s.u,int i64 c1.p,aq 3 s.a fun i=>rat (aL (rat (s.ku i) 2000)) 2000,aq 3 c1.n fun i=>rat (aL (rat (c1.k i) 2000)) 2000,aq 1 i fun i=>aq 12 c1.m fun i_1=>agg [agg [rat (aL (rat ((c (i+0)).f i_1).n.x 2000)) 8000,rat (aL (rat ((c (i+0)).f i_1).n.y 2000)) 8000,rat (aL (rat ((c (i+0)).f i_1).n.z 2000)) 8000],rat (aL (rat ((c (i+0)).f i_1).d 2000)) 8000]],int i64 0]))):=ag
theorem aiV {s:Sf} {t:Rat} {c:Nat->Cu} {i:Nat} {e:Int}:jt T rK .ret ⟨aB qH [.ptr 0 0 5 0 [],.ptr 1 0 3 0 [],.ptr 2 0 5 0 [],.int .i64 e,.own 3 3 0 i,.int .i64 i],[(3,⟨true,true,3,i,fun i=>bV (c i) 2000 2000⟩),(2,⟨false,true,5,1,fun j=>if(j==0)=true then aV (.agg (AV.kids (.agg [.int .i64 0,.int .i64 0,.nil,.nil,.nil])))else .agg [.int .i64 0,.int .i64 0,.nil,.nil,.nil]⟩),(1,tP t 2000),(0,⟨false,true,5,1,fun _=>aZ s 2000 2000⟩)],4⟩=
  some (aj [(0:Nat)<1] (leaf ret [agg [int i64 0,int i64 0,nil,nil,nil],int i64 e])):=ag
theorem ag9:aW P Nf DU:=ck fun⟨c,t,_⟩ K hn=>by
 have hc:jj c 20:=hn.1
 have ht:ej t:=hn.2
 refine Pc (us:=[bV (gj c t) 2002 sE,.int .i64 (cV c t)]) (ac5 K [bV c 2000 2000,.rat t 2000] [] _ rfl) (fun _=>⟨bP aY,nw aY,aY,hc.kn,fun i=>Fl (hc.pos i)⟩) rfl ⟨?_,.refl _,trivial⟩
 by_cases h:cV c t=0
 ·exact(hc.ins ht h).abJ (by decide)
 ·rw[show gj c t=pz from if_neg h];exact XU
theorem aiD:aW P Uy xL:=ck fun⟨c,_⟩ K hn=>by
 obtain⟨hb,h20⟩:xl c/\c.n<=20:=hn
 exact Pc (us:=[bV (eH c) 2000 (bX+bX+1),.int .i64 (nJ c)]) (afG K [bV c 2000 2000] [] _ rfl) (fun _=>⟨bP aY,nw aY,hb.d.kn,h20⟩) rfl ⟨(SD hb).up,.refl _,trivial⟩
theorem G0:bu P rZ:=cz (aI (iU hT (cz bz) hm anY _ _) (aI ag9 (aI aiD (aI YO bz))))
theorem Qf {j:Nat} {rl:List (Nat×Nat)} {c:Nat->Cu} {v:AV} {z:AV} {k:Nat} (hk:k<j+1) (hv:v=bV (c j) 2000 2000):eZ rl (if k<j then bV (c k) 2000 2000 else nth [v] z (k-j+0)) (bV (c k) 2000 2000):=by
 by_cases h:k<j
 ·rw[if_pos h];exact cB rfl rfl
 ·have:k=j:=aa
  subst this
  rw[if_neg h,Nat.sub_self,hv];exact cB rfl rfl
theorem jI.rows {F:Cu->Cu} {b:Bool} {t:Rat} {s:Sf} {x y:Nat} (h:jI F b t (ct s)) (hs:dr s):bN (aZ (Cq s s.n fun i=>F (fQ s i)) x y) (aZ (ct (fT F (ct s))) 2000 2000):=(h.S hs.swap.z).swap.up
theorem Wj {s:Sf} {t:Rat} (hs:dr s) (ht:ej t) (K:Nat):aQ P yV K [aZ s 2000 2000,.rat t 2000] [] (aJ (.tuple [aZ (ct (fF (ct s) t)) 2000 2000,.int .i64 (cV (fQ s 0) t)]) []):=by
 refine fc (r:=aJ (.tuple [aZ (ct (fF (ct s) t)) 2000 2000,.int .i64 (cV (fQ s 0) t)]) []) hT Sr rfl aX rfl (fun _ cx h00=>?_) K []
 have hk:=gV h00
 obtain⟨ku,kv,u0,u6,v0,v6,ha,hb,hn,hm2,hw⟩:=id hs.ok
 have iy:=hs.iy
 have ig:=hs.ig
 have la:=ku.len
 have lb:=kv.len
 have hr:∀{i:Nat} {c:Nat->Cu},cV (fQ s 0) t≠0->ou T rK qH (.tuple [aZ (ct (fF (ct s) t)) 2000 2000,.int .i64 (cV (fQ s 0) t)]) ([.ptr 0 0 5 0 [],.ptr 1 0 3 0 [],.ptr 2 0 5 0 [],.int .i64 (cV (fQ s 0) t),.own 3 3 0 i,.int .i64 i],[(3,⟨true,true,3,i,fun i=>bV (c i) 2000 2000⟩),(2,⟨false,true,5,1,fun j=>if(j==0)=true then aV (.agg (AV.kids (.agg [.int .i64 0,.int .i64 0,.nil,.nil,.nil])))else .agg [.int .i64 0,.int .i64 0,.nil,.nil,.nil]⟩),(1,tP t 2000),(0,⟨false,true,5,1,fun _=>aZ s 2000 2000⟩)]):=fun {i c} h0=>by
  refine⟨[_,_,_,_,_,_],[],4,_,rfl,rfl,rfl,aiV,rfl,⟨⟨aa,fun i _=>rfl⟩,⟨aa,fun i _=>nQ rfl rfl⟩,⟨aa,fun i _=>rfl⟩,⟨aa,fun i _=>rfl⟩,trivial⟩,?_⟩
  simp only[ah.all,aA]
  refine⟨Nat.zero_lt_one,?_,.refl _,trivial⟩
  rw[show fF (ct s) t=tY from if_neg h0]
  exact MD
 refine au.j4 hT G0 hm (x:=xb) [1,1,0,1] (i:=0) (y:=part xb [1,1,0,1,0,0]) (z:=part xb [1,1,1]) ag ag ag Sr.dst hk (f1:=[]) (f2:=[14,26]) 60 qH 4 (fun i:Nat=>Iz i) (fun i=>LF s t (fun i=>gj (fQ s i) t) i) (fun i=>i<=s.n/\(0<i->cV (fQ s 0) t=0)) (fun i=>i=s.n/\(0<i->cV (fQ s 0) t=0)) (fun i=>s.n-i) (ou T rK qH (.tuple [aZ (ct (fF (ct s) t)) 2000 2000,.int .i64 (cV (fQ s 0) t)]))
  ⟨_,X6,?_⟩ (fun i hi=>⟨_,V7,?_⟩) (fun i hi=>?_) (fun v s' hv hs'=>hv.fin (L1:=[]) hk hs')
 ·simp only[ah.all]
  rw[ML,Ug]
  exact⟨0,⟨Nat.zero_le _,fun h=>absurd h (Nat.lt_irrefl 0)⟩,[(0,0),(1,4096),(2,8192)],rfl,rfl,rfl,fV rfl aa aa (aC (aC (aC trivial)))⟩
 ·obtain⟨i1,i2⟩:=hi
  have hb:bne (cV (fQ s i) t) 0=bne (cV (fQ s 0) t) 0:=rfl
  have hD:=(hs.r i).d
  simp only[ah.all,aA,bq,bw,bn,Nat.add_zero]
  refine⟨aa,fun h=>⟨⟨aa,aa,aa,aa,aa,aa,aa,aa,bP (by decide),nw (by decide),aa,hD,ht,aa⟩,fun h2=>⟨aa,hr (bne_iff_ne.1 h2)⟩,fun h2=>⟨⟨aa,aa,aa⟩,aa,i+1,⟨aa,fun _=>bne_eq_false_iff_eq.1 h2⟩,by dsimp only;omega,[(0,0),(1,1),(2,2),(3,86020)],rfl,rfl,rfl,bJ rfl rfl rfl (fun k hk=>Qf (c:=fun i=>gj (fQ s i) t) hk rfl) (aC (aC (aC trivial)))⟩⟩,
   fun h=>⟨rfl,i,⟨aa,i2⟩,[(0,0),(1,1),(2,2),(3,3)],rfl,rfl,rfl,bk (aC (aC (aC trivial)))⟩⟩
 ·obtain⟨rfl,i2⟩:=hi
  have he:=i2 aa
  have hc:=zu hs.swap ht he
  refine au.gr ((aH.fin hT G0 hm 60 am0 ag ?_).mono fun _ _ h=>.inl h)
  have z1:(gj (fQ s 0) t).n<2^30:=by
   have:=(vr (b:=true) (t:=t) (c:=cC (ct s) 0)).1
   rw[hc.n 0]at this
   have:(gj (fQ s 0) t).n<=s.b+s.b+1:=this
   omega
  have z2:(gj (fQ s 0) t).m<2^30:=by
   have:=(vr (b:=true) (t:=t) (c:=cC (ct s) 0)).2
   rw[hc.m 0]at this
   have:(gj (fQ s 0) t).m<=s.b+s.b+1:=this
   omega
  simp only[ah.all,aA,Nat.add_zero]
  refine⟨⟨aa,bP (by decide),bP (by decide),gh (by decide),fun i hi=>b7 ⟨.refl _,dS fun _ _=>bO rfl (by decide),dS fun _ _=>tU rfl (by decide),trivial⟩,aa,aa,aa,z1,z2,fun i _=>hc.mm i,aa⟩,aa,?_,bK he.symm,trivial⟩
  rw[show fF (ct s) t=fT (fun c=>gj c t) (ct s)from if_pos he]
  exact hc.rows hs
theorem amU {s:Sf} (hs:dr s) (h5:s.v<=5) (K:Nat):aQ P Bf K [aZ s 2000 2000] [] (aJ (.tuple [aZ (ct (fT eH (ct s))) 2000 2000,.int .i64 0]) []):=by
 refine fc (r:=aJ (.tuple [aZ (ct (fT eH (ct s))) 2000 2000,.int .i64 0]) []) hT Qr rfl aX rfl (fun _ cx h00=>?_) K []
 have hk:=gV h00
 obtain⟨ku,kv,u0,u6,v0,v6,ha,hb,hn,hm2,hw⟩:=id hs.ok
 have iy:=hs.iy
 have ig:=hs.ig
 have la:=ku.len
 have lb:=kv.len
 refine au.j4 hT G0 hm (x:=uD) [1,1,0,1] (i:=0) (y:=part uD [1,1,0,1,0,0]) (z:=part uD [1,1,1]) ag ag ag Qr.dst hk (f1:=[]) (f2:=[12,200023]) 60 y6 3 (fun i:Nat=>KM i) (fun i=>Jt s (fun i=>eH (fQ s i)) i) (fun i=>i<=s.n) (fun i=>i=s.n) (fun i=>s.n-i) (fun _=>False)
  ⟨_,aij,?_⟩ (fun i hi=>⟨_,ad1,?_⟩) (fun i hi=>?_) (fun _ _ h=>h.elim)
 ·simp only[ah.all]
  rw[ML]
  exact⟨0,Nat.zero_le _,[(0,0),(1,4096)],rfl,rfl,rfl,fV rfl aa aa (aC (aC trivial))⟩
 ·have he:(nJ (fQ s i)!=0)=false:=bne_eq_false_iff_eq.2 (if_neg (show¬6<=s.v by omega))
  simp only[ah.all,aA,bq,bw,bn,Nat.add_zero]
  exact⟨aa,fun h=>⟨⟨aa,aa,aa,aa,aa,aa,aa,bP (by decide),nw (by decide),hs.r i,hs.ig,aa⟩,he,⟨aa,aa,aa⟩,aa,i+1,aa,by dsimp only;omega,[(0,0),(1,1),(2,81923)],rfl,rfl,rfl,bJ rfl rfl rfl (fun k hk=>Qf (c:=fun i=>eH (fQ s i)) hk rfl) (aC (aC trivial))⟩,
   fun h=>⟨rfl,i,aa,[(0,0),(1,1),(2,2)],rfl,rfl,rfl,bk (aC (aC trivial))⟩⟩
 ·subst hi
  have hc:=wW hs.swap h5
  refine au.gr ((aH.fin hT G0 hm 60 Wk ag ?_).mono fun _ _ h=>.inl h)
  obtain⟨z1,z2⟩:=vr (b:=false) (t:=0) (c:=cC (ct s) 0)
  rw[hc.n 0]at z1
  rw[hc.m 0]at z2
  have z1:(eH (fQ s 0)).n<=s.b+s.b+1:=z1
  have z2:(eH (fQ s 0)).m<=s.b+s.b+1:=z2
  simp only[ah.all,aA,Nat.add_zero]
  exact⟨⟨aa,bP (by decide),bP (by decide),gh (by decide),fun i hi=>b7 ⟨.refl _,dS fun _ _=>bO rfl (by decide),dS fun _ _=>tU rfl (by decide),trivial⟩,aa,aa,aa,aa,aa,fun i _=>hc.mm i,aa⟩,aa,hc.rows hs,.refl _,trivial⟩
def Lk:Spec:=cq (kC (gy 2000 2000) (kC (gN 2000) kN)) (fun a=>.tuple [aZ (ct (fF (ct a.1) a.2.1)) 2000 2000,.int .i64 (cV (fQ a.1 0) a.2.1)]) fun a=>[dr a.1,ej a.2.1]
def KH:Spec:=cq (kC (gy 2000 2000) kN) (fun a=>.tuple [aZ (ct (fT eH (ct a.1))) 2000 2000,.int .i64 0]) fun a=>[dr a.1,a.1.v<=5]
def HE:bf:=nG::(CY,T6)::(yV,Lk)::(Bf,KH)::[]
abbrev lP (x:Sf):List Prop:=[1<=x.n,x.n<2^30,x.m<2^30,x.a<2^30,x.b<2^30]
theorem ZG {s:Sf} {t:Rat}:bU T HE [16] 60 CT (ay CT) ⟨aP 0 [aZ s 2000 2000,.rat t 2000],[],0⟩=
  let o:Prop:=0<1;let x:=fF s t;let y:=ct x;some (aj (o::(nT s++(lP s++(o::(nT (ct s)++[2000<=2000,dr (ct s),ej t,o]))))) (fork (cV (cE s 0) t !=0) (aj [o] (aj [o] (leaf .ret [.agg [.int .i64 0,.int .i64 0,.nil,.nil,.nil],.int .i64 (cV (cE s 0) t)]))) (aj (o::(nT y++(lP y++[o]))) (aj [o] (leaf .ret [aZ x 2000 2000,.int .i64 0]))))):=ag
theorem VH {s:Sf}:bU T HE [200013] 60 EA (ay EA) ⟨aP 0 [aZ s 2000 2000],[],0⟩=
  let o:Prop:=0<1;let x:=fT eH s;let y:=ct x;some (aj (o::(nT s++(lP s++(nT (ct s)++[dr (ct s),s.u<=5,o])))) (aj [((0:Int)!=0)=false] (aj (o::(nT y++(lP y++[o]))) (aj [o] (leaf .ret [aZ x 2000 2000,.int .i64 0]))))):=ag
theorem RE:aW P Lk yV:=ck fun⟨s,t,_⟩ K hn=>Wj hn.1 hn.2 K
theorem Ro:aW P KH Bf:=ck fun⟨s,_⟩ K hn=>amU hn.1 hn.2 K
theorem Uk:bu P HE:=cz (aI ajj (aI RE (aI Ro bz)))
theorem dr.lP {s:Sf} (hs:dr s):aA (lP s):=by
 obtain⟨ku,kv,u0,u6,v0,v6,ha,hb,hn,hm2,hw⟩:=id hs.ok
 have iy:=hs.iy
 have ig:=hs.ig
 have la:=ku.len
 exact⟨show 1<=s.n by omega,show s.n<2^30 by omega,show s.m<2^30 by omega,show s.a<2^30 by omega,show s.b<2^30 by omega⟩
theorem jI.lP {F:Cu->Cu} {b:Bool} {t:Rat} {s:Sf} (h:jI F b t s) (hs:dr s):aA (lP (ct (fT F s))):=by
 obtain⟨z1,z2⟩:=vr (b:=b) (t:=t) (c:=cC s 0)
 rw[h.n]at z1
 rw[h.m]at z2
 have z1:(F (cE s 0)).n<=s.a+s.a+1:=z1
 have z2:(F (cE s 0)).m<=s.a+s.a+1:=z2
 obtain⟨ku,kv,u0,u6,v0,v6,ha,hb,hn,hm2,hw⟩:=id hs.ok
 have iy:=hs.iy
 have ig:=hs.ig
 have lb:=kv.len
 exact⟨show 1<=s.m by omega,show s.m<2^30 by omega,show(F (cE s 0)).m<2^30 by omega,show s.b<2^30 by omega,show(F (cE s 0)).n<2^30 by omega⟩
def NC:Spec:=cq (kC (gy 2000 2000) (kC (gN 2000) kN)) (fun a=>.tuple [aZ (fF a.1 a.2.1) 2000 2000,.int .i64 (cV (cE a.1 0) a.2.1)]) fun a=>[dr a.1,ej a.2.1]
def P3:Spec:=cq (kC (gy 2000 2000) kN) (fun a=>.tuple [aZ (fT eH a.1) 2000 2000,.int .i64 0]) fun a=>[dr a.1,a.1.u<=5]
theorem aaB:aW P NC Kp:=ck fun⟨s,t,_⟩ K hn=>by
 obtain⟨hs,ht⟩:dr s/\ej t:=hn
 refine bZ (r:=aJ (.tuple [aZ (fF s t) 2000 2000,.int .i64 (cV (cE s 0) t)]) []) hT Uk hm aj1 rfl aX rfl 60 ZG (fun _=>?_) K []
 simp only[ah.all]
 refine⟨⟨Nat.zero_lt_one,ri (dD.2 ⟨hs.lP,Nat.zero_lt_one,ri ⟨aY,hs.swap,ht,Nat.zero_lt_one⟩⟩)⟩,fun h=>⟨Nat.zero_lt_one,Nat.zero_lt_one,?_,.refl _,trivial⟩,fun h=>?_⟩
 ·rw[show fF s t=tY from if_neg (bne_iff_ne.1 h)]
  exact MD
 ·have he:=bne_eq_false_iff_eq.1 h
  rw[show fF s t=fT (fun c=>gj c t) s from if_pos he]
  exact⟨⟨Nat.zero_lt_one,ri (dD.2 ⟨(zu hs ht he).lP hs,Nat.zero_lt_one⟩)⟩,Nat.zero_lt_one,.refl _,bK he.symm,trivial⟩
theorem aiH:aW P P3 L8:=ck fun⟨s,_⟩ K hn=>by
 obtain⟨hs,h5⟩:dr s/\s.u<=5:=hn
 refine bZ (r:=aJ (.tuple [aZ (fT eH s) 2000 2000,.int .i64 0]) []) hT Uk hm abG rfl aX rfl 60 VH (fun _=>?_) K []
 simp only[ah.all]
 exact⟨⟨Nat.zero_lt_one,ri (dD.2 ⟨hs.lP,ri ⟨hs.swap,h5,Nat.zero_lt_one⟩⟩)⟩,rfl,⟨Nat.zero_lt_one,ri (dD.2 ⟨(wW hs h5).lP hs,Nat.zero_lt_one⟩)⟩,Nat.zero_lt_one,.refl _,.refl _,trivial⟩
theorem Ny:aT P D3 wY (ay wY):=aU Proofs.Tryz.func62 ag ag ag
def q9:bf:=nG::(tG,jD uF)::(F5,jD J0)::(I8,jD Il)::(pC,rT)::nY
abbrev oR:List Nat:=[0,6,7,8,9]
abbrev wQ (b:Bool) (i:Nat):List AV:=[.ptr 0 0 2 0 [],.ptr 1 0 5 0 [],.ptr 2 0 5 0 [],.bool b,.int .i64 i]
abbrev xz:List Nat:=[0,6,7,8,9,10,11]
abbrev JJ (b:Bool) (i j:Nat):List AV:=[.ptr 0 0 2 0 [],.ptr 1 0 5 0 [],.ptr 2 0 5 0 [],.bool b,.int .i64 i,.own 4 12 0 j,.int .i64 j]
abbrev rX (n:Nat) (z:Nat->Int) (a:Int) (u v:Nat) (na nb:Nat) (ku kv:Nat->Rat) (f:Nat->Nat->Pl) (m i:Nat):aE:=
 [(3,⟨true,true,1,i,fun i=>bH (f i) m 200⟩),(2,⟨false,true,5,1,fun _=>.agg [.int .i64 u,.int .i64 v,br ku na 64,br kv nb 64,.own 3 1 0 i]⟩),(1,⟨false,true,5,1,fun _=>.agg [.int .i64 0,.int .i64 0,.nil,.nil,.nil]⟩),(0,mL n z a)]
abbrev L6 (n:Nat) (z:Nat->Int) (a:Int) (u v:Nat) (na nb:Nat) (ku kv:Nat->Rat) (f:Nat->Nat->Pl) (m i j:Nat):aE:=(4,⟨true,true,12,j,fun j=>bh (f i j) 200⟩)::rX n z a u v na nb ku kv f m i
abbrev rE:Code:=ay wY
abbrev AY:Code:=part rE [1,1,1,1,0,1,0,0]
abbrev Be:Code:=part AY [1,0,0]
theorem agJ {n:Nat} {z:Nat->Int} {a d m:Int}:aG T q9 [] 60 oR (before rE [1,1,1,1,0,1]) ⟨aP 0 [.ptr 0 0 2 0 [],.int .i64 d,.int .i64 m],[(0,mL n z a)],1⟩=
  let c13:AV:=int i64 0;let c12:Int:=(2:Int)^62;let c11:Int:=aR n (aR n a);let c10:Int:=(2:Int)^63;let c9:Prop:=0<1;let c7:Bool:=0==0;let c3:Int:=(1:Int)+cF n (fun i=>int i64 (z i)) (aR n a) d;let c2:Int:=(1:Int)+cF n (fun i=>int i64 (z i)) a d;let c6:AV:=agg [c13,c13,nil,nil,nil];let c4:Int:=fH n (fun i=>int i64 (z i)) c11 c2.toNat m.toNat;let c8:Int:=fH n (fun i=>int i64 (z i)) c4 c3.toNat m.toNat;let c1:AV:=aV (agg ((c6.kids.set 0 (aV (int i64 c2))).set 1 (aV (int i64 c3))));let c14:AV:=if c7=true then c1 else c6;let c5:AV:=agg (c14.kids.set 2 (aV (br (jz n (fun i=>int i64 (z i)) c11 c2.toNat m.toNat) (ju n (fun i=>int i64 (z i)) c11 c2.toNat m.toNat) 64)));some (aj [dj n (fun i=>int i64 (z i)) a,(0:Int)<d,d<c12,-c10<=c2/\c2<c10,dj n (fun i=>int i64 (z i)) (aR n a),(0:Int)<d,d<c12,-c10<=c3/\c3<c10,c9] (aj [c9,dj n (fun i=>int i64 (z i)) c11,(1:Int)<=c2,c2<1000,(0:Int)<=m,m<1000,c9,dj n (fun i=>int i64 (z i)) c4,(1:Int)<=c3,c3<1000,(0:Int)<=m,m<1000,c9,c9] (aj [dj n (fun i=>int i64 (z i)) c8,(0:Int)<3,(3:Int)<c12] (leaf normal ([ptr 0 0 2 0 [],ptr 1 0 5 0 [],ptr 40961 0 5 0 [],AV.bool (cF n (fun i=>int i64 (z i)) c8 (3:Int)==2),c13],[(40961,ak.mk false true 5 1 fun j=>if(j==0)=true then agg ((if c7=true then c5 else c14).kids.set 3 (aV (br (jz n (fun i=>int i64 (z i)) c4 c3.toNat m.toNat) (ju n (fun i=>int i64 (z i)) c4 c3.toNat m.toNat) 64)))else if(j==0)=true then c5 else if(j==0)=true then c1 else c6),(1,ak.mk false true 5 1 fun x=>c6),(0,ak.mk false true 2 1 fun x=>agg [aq 1 n fun i=>int i64 (z i),int i64 (aR n c8)])]))))):=ag
theorem XO {n u v na nb m i:Nat} {z:Nat->Int} {a:Int} {ku kv:Nat->Rat} {f:Nat->Nat->Pl} {b:Bool}:aG T q9 [45] 60 oR (before AY [1,0]) ⟨aB oR (wQ b i),rX n z a u v na nb ku kv f m i,4⟩=
  let c3:Int:=(2:Int)^63;let c2:Int:=(↑na:Int)-(↑u:Int);let c1:List AV×aE:=([ptr 0 0 2 0 [],ptr 1 0 5 0 [],ptr 2 0 5 0 [],AV.bool b,int i64 (↑i:Int)],[(3,ak.mk true true 1 i fun i=>aq 12 m fun i_1=>bh (f i i_1) 200),(2,ak.mk false true 5 1 fun x=>agg [int i64 (↑u:Int),int i64 (↑v:Int),aq 3 na fun i=>rat (ku i) 64,aq 3 nb fun i=>rat (kv i) 64,own 3 1 0 i]),(1,ak.mk false true 5 1 fun x=>agg [int i64 0,int i64 0,nil,nil,nil]),(0,ak.mk false true 2 1 fun x=>agg [aq 1 n fun i=>int i64 (z i),int i64 a])]);let c4:Int:=c2-1;some (aj [(0:Nat)<1,(0:Nat)<1,-c3<=c2/\c2<c3,-c3<=c4/\c4<c3] (fork (decide ((↑i:Int)<c4)) (leaf normal c1) (leaf (exit 0) c1))):=ag
theorem adQ {n u v na nb m i:Nat} {z:Nat->Int} {a:Int} {ku kv:Nat->Rat} {f:Nat->Nat->Pl} {b:Bool}:aG T q9 [] 60 xz (before Be [1,0,1]) ⟨aB oR (wQ b i),rX n z a u v na nb ku kv f m i,4⟩=
  let c1:AV:=int i64 0;some (leaf normal ([ptr 0 0 2 0 [],ptr 1 0 5 0 [],ptr 2 0 5 0 [],AV.bool b,int i64 (↑i:Int),nil,c1],[(3,ak.mk true true 1 i fun i=>aq 12 m fun i_1=>bh (f i i_1) 200),(2,ak.mk false true 5 1 fun x=>agg [int i64 (↑u:Int),int i64 (↑v:Int),aq 3 na fun i=>rat (ku i) 64,aq 3 nb fun i=>rat (kv i) 64,own 3 1 0 i]),(1,ak.mk false true 5 1 fun x=>agg [c1,c1,nil,nil,nil]),(0,ak.mk false true 2 1 fun x=>agg [aq 1 n fun i=>int i64 (z i),int i64 a])])):=ag
theorem abF {n u v na nb m i j:Nat} {z:Nat->Int} {a:Int} {ku kv:Nat->Rat} {f:Nat->Nat->Pl} {b:Bool}:aG T q9 [56,62] 60 xz [part Be [1,0,1,0,0]] ⟨aB xz (JJ b i j),L6 n z a u v na nb ku kv f m i j,5⟩=
  let c35:Int:=(↑j:Int);let c34:Int:=gM n (fun i=>int i64 (z i)) a;let c33:Rat:=gx n (fun i=>int i64 (z i)) a;let c32:AV:=int i64 (↑i:Int);let c29:AV:=aq 1 n fun i=>int i64 (z i);let c24:Rat:=(↑(1:Int):Rat)/(↑(8:Int):Rat);let c23:Nat:=j+1;let c20:Int:=(↑(3:Nat):Int);let c19:Nat:=64+64;let c18:AV:=ptr 0 0 2 0 [];let c17:AV:=ptr 1 0 5 0 [];let c16:AV:=ptr 2 0 5 0 [];let c14:Int:=(↑nb:Int)-(↑v:Int);let c13:Nat×ak:=(1,ak.mk false true 5 1 fun x=>agg [int i64 0,int i64 0,nil,nil,nil]);let c12:AV:=rat (↑((1:Int)+cF n (fun i=>int i64 (z i)) (jk n (fun i=>int i64 (z i)) a) (3:Int)):Rat) 64;let c10:Int:=(2:Int)*(↑i:Int);let c7:AV:=rat 0 1;let c6:Nat:=2^41;let c5:Prop:=0<1;let c4:Nat×ak:=(2,ak.mk false true 5 1 fun x=>agg [int i64 (↑u:Int),int i64 (↑v:Int),aq 3 na fun i=>rat (ku i) 64,aq 3 nb fun i=>rat (kv i) 64,own 3 1 0 i]);let c3:Nat×ak:=(3,ak.mk true true 1 i fun i=>aq 12 m fun i_1=>bh (f i i_1) 200);let c2:Int:=(2:Int)^63;let c38:Prop:=(1:Int)<c2;let c37:Prop:=-c2<=1;let c36:AV:=agg [agg [c7,c7,c7],c7];let c30:Nat:=Max.max 1 (bQ c10.natAbs);let c28:Prop:=(0:Int)<=0/\(0:Int)<c20;let c27:Prop:=(0:Int)<=1/\(1:Int)<c20;let c26:Prop:=(0:Int)<=2/\(2:Int)<c20;let c25:Int:=c14-1;let c22:Prop:=64<c6;let c21:Rat:=gx n (fun i=>int i64 (z i)) c34;let c15:Int:=c35+1;let c11:Int:=(2:Int)*c35;let c9:List Prop:=[c5,(1:Nat)*12<=2^24,c23*((224:Nat)+1)*2<=2^47];let c8:Rat:=if false=true then 0 else gx n (fun i=>int i64 (z i)) (gM n (fun i=>int i64 (z i)) c34);let c1:List (Nat×ak):=[c4,c13,(0,ak.mk false true 2 1 fun x=>agg [c29,int i64 (J5 n (fun i=>int i64 (z i)) a)])];let c31:Nat:=Max.max 1 (bQ c11.natAbs);some (aj [c5,c5,-c2<=c14/\c14<c2,-c2<=c25/\c25<c2] (fork (decide (c35<c25)) (aj [dj n (fun i=>int i64 (z i)) a,c5] (fork (!b) (aj [-c2<=c10/\c10<c2,-c2<=c10,c10<c2,c28,c5,c37,c38,-c2<=8,(8:Int)<c2,c22,c22,c30<c6,c19<c6,c28,c5] (aj [-c2<=c11/\c11<c2,-c2<=c11,c11<c2,c27,c5,c37,c38,-c2<=8,(8:Int)<c2,c22,c22,c31<c6,c19<c6,c27,c5] (aj [c26,c5,c37,c38,-c2<=4,(4:Int)<c2,c22,c22,c26,c5] (aj c9 (aj [-c2<=c15/\c15<c2] (leaf normal ([c18,c17,c16,AV.bool b,c32,own 204805 12 0 c23,int i64 c15],c3::(204805,ak.mk true true 12 c23 fun i_1=>if i_1<j then bh (f i i_1) 200 else nth [agg [agg [rat ((↑c10:Rat)+c33*c24) (c30+c19+1),rat ((↑c11:Rat)+c21*c24) (c31+c19+1),rat (c8*((↑(1:Int):Rat)/(↑(4:Int):Rat))) c19],c12]] c36 (i_1-j+0))::c1))))))) (aj c9 (aj [-c2<=c15/\c15<c2] (leaf normal ([c18,c17,c16,AV.bool b,c32,own 73733 12 0 c23,int i64 c15],c3::(73733,ak.mk true true 12 c23 fun i_1=>if i_1<j then bh (f i i_1) 200 else nth [agg [agg [rat c33 64,rat c21 64,rat c8 64],c12]] c36 (i_1-j+0))::c1)))))) (leaf (exit 2) ([c18,c17,c16,AV.bool b,c32,own 4 12 0 j,int i64 c35],[c3,(4,ak.mk true true 12 j fun j=>bh (f i j) 200),c4,c13,(0,ak.mk false true 2 1 fun x=>agg [c29,int i64 a])])))):=ag
theorem amk {n u v na nb m i j:Nat} {z:Nat->Int} {a:Int} {ku kv:Nat->Rat} {f:Nat->Nat->Pl} {b:Bool}:aG T q9 [] 60 oR (behind Be [1,0,1]++[part AY [1,1]]) ⟨aB xz (JJ b i j),L6 n z a u v na nb ku kv f m i j,5⟩=
  let c2:Int:=(↑i:Int)+1;let c1:AV:=agg [int i64 (↑u:Int),int i64 (↑v:Int),br ku na 64,br kv nb 64,own 3 1 0 i];some (aj [(0:Nat)<1,(1:Nat)*1<=2^24,(i+1)*((24:Nat)+1)*2<=2^47,(0:Nat)<1] (aj [-(2:Int)^63<=c2/\c2<2^63] (leaf normal ([ptr 0 0 2 0 [],ptr 1 0 5 0 [],ptr 2 0 5 0 [],AV.bool b,int i64 c2],[(16389,ak.mk true true 1 (i+1) fun i_1=>if i_1<i then bH (f i_1) m 200 else nth [aq 12 j fun i_2=>bh (f i (i_2+0)) 200] nil (i_1-i+0)),(2,ak.mk false true 5 1 fun j=>if(j==0)=true then agg (c1.kids.set 4 (aV (own (nat_lit 16388+1) 1 0 (i+1))))else c1),(1,ak.mk false true 5 1 fun x=>agg [int i64 0,int i64 0,nil,nil,nil]),(0,ak.mk false true 2 1 fun x=>agg [aq 1 n fun i=>int i64 (z i),int i64 a])])))):=ag
theorem WV {n u v na nb m i:Nat} {z:Nat->Int} {a:Int} {ku kv:Nat->Rat} {f:Nat->Nat->Pl} {b:Bool}:B9 T q9 [] 60 wY [part rE [1,1,1,1,1]] ⟨aB oR (wQ b i),rX n z a u v na nb ku kv f m i,4⟩=
  let c1:Prop:=0<1;some (aj [c1,c1] (aj [c1] (leaf ret ([agg [int i64 (↑u:Int),int i64 (↑v:Int),aq 3 na fun i=>rat (ku i) 64,aq 3 nb fun i=>rat (kv i) 64,aq 1 i fun i=>aq 12 m fun i_1=>bh (f (i+0) i_1) 200]],some (ak.mk false true 2 1 fun x=>agg [aq 1 n fun i=>int i64 (z i),int i64 a]))))):=ag
def lQ (b:Bool) (n:Nat) (f:Nat->AV) (a:Int) (i j:Nat):Pl:=
 if b=true then oY n f a false else⟨⟨((2*(i:Int):Int):Rat)+(oY n f a false).n.x*(((1:Int):Rat)/((8:Int):Rat)),((2*(j:Int):Int):Rat)+(oY n f a false).n.y*(((1:Int):Rat)/((8:Int):Rat)),(oY n f a false).n.z*(((1:Int):Rat)/((4:Int):Rat))⟩,(oY n f a false).d⟩
theorem QL:bu P q9:=cz (aI BK (aI agP (aI anh (aI vp oW))))
theorem agj {n u v na nb m mm:Nat} {z:Nat->Int} {B:Int} {ku kv:Nat->Rat} {b:Bool} {cx:Ctx} {s0:aK} {Q:ax->aK->Prop} {d M:Int} {a0:Int} (hk:Kept [0] cx) (hB:dj n (fun i=>.int .i64 (z i)) B) (hu:(mm:Int)=(na:Int)-u-1) (hv:(m:Int)=(nb:Int)-v-1) (h1:mm<2^20) (h2:m<2^20) (hna:na<2^20) (hnb:nb<2^20) (hu2:u<2^20) (hv2:v<2^20)
  (hp:∃t,aG T q9 [] 60 oR (before rE [1,1,1,1,0,1]) s0=some t/\t.all (Start [0] (fun i:Nat=>wQ b i) (fun i=>rX n z (jP n (fun i=>.int .i64 (z i)) B (i*m)) u v na nb ku kv (fun i j=>lQ b n (fun i=>.int .i64 (z i)) (jP n (fun i=>.int .i64 (z i)) B (i*m+j)) i j) m i) 4 (fun i=>i<=mm) (fun _=>False)))
  (hD:au P cx wY.ntmps (part rE [1,1,1,1,1]) ⟨aB oR (wQ b mm),rX n z (jP n (fun i=>.int .i64 (z i)) B (mm*m)) u v na nb ku kv (fun i j=>lQ b n (fun i=>.int .i64 (z i)) (jP n (fun i=>.int .i64 (z i)) B (i*m+j)) i j) m mm,4⟩ Q):
  au P cx wY.ntmps rE s0 Q:=by
 have hv3:∀{rl:List (Nat×Nat)} {l:Nat} {w:AV},w.isTuple=false->fR (bp rl) w (.own 3 1 0 l)->eZ rl (.agg [.int .i64 u,.int .i64 v,br ku na 64,br kv nb 64,w]) (.agg [.int .i64 u,.int .i64 v,br ku na 64,br kv nb 64,.own 3 1 0 l]):=
  fun h5 h6=>gz ⟨aM,aM,aM,aM,⟨h5,h6⟩,trivial⟩
 refine au.wR hT QL hm (x:=rE) [1,1,1,1,0,1] (i:=0) (y:=AY) (z:=part rE [1,1,1,1,1]) ag ag ag Ny.dst [1,0] (j:=1) (x1:=Be) (zb:=part AY [1,1]) ag ag ag [1,0,1] (i2:=2) (y2:=part Be [1,0,1,0,0]) ag ag rfl
  hk (f1:=[]) (f2:=[45]) (f3:=[]) (f4:=[56,62]) (f5:=[]) 60 oR xz 4 5 (fun i:Nat=>wQ b i) (fun i=>rX n z (jP n (fun i=>.int .i64 (z i)) B (i*m)) u v na nb ku kv (fun i j=>lQ b n (fun i=>.int .i64 (z i)) (jP n (fun i=>.int .i64 (z i)) B (i*m+j)) i j) m i) (fun i=>i<=mm) (fun i=>i=mm) (fun i=>mm-i) (fun i=>i<mm) (fun _=>False) (fun _=>False)
  (fun i (j:Nat)=>JJ b i j) (fun i j=>L6 n z (jP n (fun i=>.int .i64 (z i)) B (i*m+j)) u v na nb ku kv (fun i j=>lQ b n (fun i=>.int .i64 (z i)) (jP n (fun i=>.int .i64 (z i)) B (i*m+j)) i j) m i j) (fun _ j=>j<=m) (fun _ j=>j=m) (fun _ j=>m-j) hp (fun i hi=>⟨_,XO,?_⟩) (fun i hi hg=>⟨_,adQ,?_⟩) (fun i hi hg j hj=>⟨_,abF,?_⟩) (fun i hi hg j hj=>⟨_,amk,?_⟩) (fun i hi=>by rw[hi];exact hD) (fun _ _ h=>h.elim) (fun _ _ h=>h.elim)
 all_goals try simp only[ah.all,aA,bq,bw,bn,Nat.add_zero]
 ·exact⟨⟨aa,aa,aa,aa⟩,fun h=>⟨aa,[(0,0),(1,1),(2,2),(3,3)],rfl,rfl,rfl,bk (bG rfl rfl (hv3 rfl (bW rfl rfl rfl)) (aC (aC trivial)))⟩,
   fun h=>⟨rfl,i,aa,[(0,0),(1,1),(2,2),(3,3)],rfl,rfl,rfl,bk (bG rfl rfl (hv3 rfl (bW rfl rfl rfl)) (aC (aC trivial)))⟩⟩
 ·exact⟨0,Nat.zero_le _,[(0,0),(1,1),(2,2),(3,3)],rfl,rfl,rfl,fV rfl aa aa (bk (bG rfl rfl (hv3 rfl (bW rfl rfl rfl)) (aC (aC trivial))))⟩
 ·have hd:=hB.yC (i*m+j)
  have b1:bQ (2*(i:Int)).natAbs<=64:=jg.2 aa
  have b2:bQ (2*(j:Int)).natAbs<=64:=jg.2 aa
  refine⟨⟨aa,aa,aa,aa⟩,fun h=>⟨⟨hd,aa⟩,fun hb=>?_,fun hb=>?_⟩,fun h=>⟨rfl,j,aa,[(0,0),(1,1),(2,2),(3,3),(4,4)],rfl,rfl,rfl,bk (bk (bG rfl rfl (hv3 rfl (bW rfl rfl rfl)) (aC (aC trivial))))⟩⟩
  ·have hb:b=false:=by cases b<;>simp_all
   subst hb
   refine⟨⟨aa,aa,aa,aa,aa,aa,aa,aa,aa,aa,aa,aa,aa,aa,aa⟩,⟨aa,aa,aa,aa,aa,aa,aa,aa,aa,aa,aa,aa,aa,aa,aa⟩,⟨aa,aa,aa,aa,aa,aa,aa,aa,aa,aa⟩,⟨aa,aa,aa⟩,aa,j+1,aa,by dsimp only;omega,[(0,0),(1,1),(2,2),(3,3),(4,204805)],rfl,rfl,rfl,bJ rfl rfl rfl (fun k hk=>pM (g:=fun k=>bh (lQ false n (fun i=>.int .i64 (z i)) (jP n (fun i=>.int .i64 (z i)) B (i*m+k)) i k) 200) (fun _ _=>⟨rfl,rfl⟩) rfl (b7 ⟨b7 ⟨bO rfl aa,bO rfl aa,bO rfl aa,trivial⟩,bO rfl aa,trivial⟩) hk) (bk (bG rfl rfl (hv3 rfl (bW rfl rfl rfl)) (aC (aC trivial))))⟩
  ·have hb:b=true:=by cases b<;>simp_all
   subst hb
   refine⟨⟨aa,aa,aa⟩,aa,j+1,aa,by dsimp only;omega,[(0,0),(1,1),(2,2),(3,3),(4,73733)],rfl,rfl,rfl,bJ rfl rfl rfl (fun k hk=>pM (g:=fun k=>bh (lQ true n (fun i=>.int .i64 (z i)) (jP n (fun i=>.int .i64 (z i)) B (i*m+k)) i k) 200) (fun _ _=>⟨rfl,rfl⟩) rfl (b7 ⟨b7 ⟨bO rfl aa,bO rfl aa,bO rfl aa,trivial⟩,bO rfl aa,trivial⟩) hk) (bk (bG rfl rfl (hv3 rfl (bW rfl rfl rfl)) (aC (aC trivial))))⟩
 ·subst hj
  exact⟨⟨aa,aa,aa,aa⟩,aa,i+1,aa,by dsimp only;omega,[(0,0),(1,1),(2,2),(3,16389)],rfl,rfl,rfl,bJ rfl rfl rfl (fun k hk=>rowAt (g:=fun i=>bH (fun k=>lQ b n (fun i=>.int .i64 (z i)) (jP n (fun i=>.int .i64 (z i)) B (i*j+k)) i k) j 200) hk rfl rfl) (bG rfl rfl (hv3 rfl (bW rfl rfl rfl)) (aC (bG rfl rfl (cB rfl (by rw[Nat.succ_mul])) trivial)))⟩
def dG (n:Nat) (f:Nat->AV) (a d:Int):Nat:=(1+cF n f a d).toNat
def yJ (n:Nat) (f:Nat->AV) (a d:Int) (m:Nat):Int:=fH n f (fH n f (aR n (aR n a)) (dG n f a d) m) (dG n f (aR n a) d) m
def iq (n:Nat) (f:Nat->AV) (a d:Int) (m:Nat):Sf:=
 ⟨(dG n f a d:Nat),(dG n f (aR n a) d:Nat),ju n f (aR n (aR n a)) (dG n f a d) m,jz n f (aR n (aR n a)) (dG n f a d) m,
  ju n f (fH n f (aR n (aR n a)) (dG n f a d) m) (dG n f (aR n a) d) m,jz n f (fH n f (aR n (aR n a)) (dG n f a d) m) (dG n f (aR n a) d) m,
  dG n f a d+1+g9 n f (aR n (aR n a)) m,dG n f (aR n a) d+1+g9 n f (fH n f (aR n (aR n a)) (dG n f a d) m) m,
  fun i j=>lQ (cF n f (yJ n f a d m) 3==2) n f (jP n f (aR n (yJ n f a d m)) (i*(dG n f (aR n a) d+1+g9 n f (fH n f (aR n (aR n a)) (dG n f a d) m) m)+j)) i j⟩
def Ka (n:Nat) (f:Nat->AV) (a d:Int) (m:Nat):Int:=jP n f (aR n (yJ n f a d m)) ((iq n f a d m).n*(iq n f a d m).m)
def Mv (n:Nat) (f:Nat->AV) (a:Int) (l:List AV):Option (AV×Int×List Prop):=match l with
 |[.int .i64 d,.int .i64 m]=>some (aZ (iq n f a d m.toNat) 64 200,Ka n f a d m.toNat,[1<=d,d<900,0<=m,m<900])
 |_=>none
theorem agE {k n m:Nat} {z:Nat->Int} {a d:Int} {o:ak} (ho:∀ρ,dw ρ o (mL n z a)) (h:dj n (fun i=>.int .i64 (z i)) a) (hd1:1<=d) (hd2:d<900) (hm2:m<900) (K:Nat):
  aQ P D3 K [.ptr k 0 2 0 [],.int .i64 d,.int .i64 m] [(k,o)] ⟨aZ (iq n (fun i=>.int .i64 (z i)) a d m) 64 200,[(k,mL n z (Ka n (fun i=>.int .i64 (z i)) a d m))],[]⟩:=by
 refine Rj hT Ny rfl rfl aX ho (fun _ c hk=>?_) K
 have a1:=gC (n:=n) (f:=fun i=>.int .i64 (z i)) (a:=a) (m:=d) aa
 have a2:=gH (n:=n) (f:=fun i=>.int .i64 (z i)) (a:=a) (m:=d) aa
 have a3:=gC (n:=n) (f:=fun i=>.int .i64 (z i)) (a:=aR n a) (m:=d) aa
 have a4:=gH (n:=n) (f:=fun i=>.int .i64 (z i)) (a:=aR n a) (m:=d) aa
 have hJ1:=uK (n:=n) (f:=fun i=>.int .i64 (z i)) (a:=aR n (aR n a)) (m:=m)
 obtain⟨u,eu⟩:∃u,u=dG n (fun i=>.int .i64 (z i)) a d:=⟨_,rfl⟩
 obtain⟨v,ev⟩:∃v,v=dG n (fun i=>.int .i64 (z i)) (aR n a) d:=⟨_,rfl⟩
 have hu:1+cF n (fun i=>.int .i64 (z i)) a d=(u:Int):=by rw[eu];unfold dG;omega
 have hv:1+cF n (fun i=>.int .i64 (z i)) (aR n a) d=(v:Int):=by rw[ev];unfold dG;omega
 have k1:=h.next.next
 have k2:=k1.gb (p:=u) (m:=m) aa
 have k3:=k2.gb (p:=v) (m:=m) aa
 have k4:=k3.next
 have hJ2:=uK (n:=n) (f:=fun i=>.int .i64 (z i)) (a:=fH n (fun i=>.int .i64 (z i)) (aR n (aR n a)) u m) (m:=m)
 have n1:ju n (fun i=>.int .i64 (z i)) (aR n (aR n a)) u m=2*u+2+g9 n (fun i=>.int .i64 (z i)) (aR n (aR n a)) m:=rfl
 have n2:ju n (fun i=>.int .i64 (z i)) (fH n (fun i=>.int .i64 (z i)) (aR n (aR n a)) u m) v m=2*v+2+g9 n (fun i=>.int .i64 (z i)) (fH n (fun i=>.int .i64 (z i)) (aR n (aR n a)) u m) m:=rfl
 unfold Ka iq yJ
 rw[<-eu,<-ev]
 dsimp only
 refine agj (B:=aR n (fH n (fun i=>.int .i64 (z i)) (fH n (fun i=>.int .i64 (z i)) (aR n (aR n a)) u m) v m)) (b:=cF n (fun i=>.int .i64 (z i)) (fH n (fun i=>.int .i64 (z i)) (fH n (fun i=>.int .i64 (z i)) (aR n (aR n a)) u m) v m) 3==2)
  (mm:=u+1+g9 n (fun i=>.int .i64 (z i)) (aR n (aR n a)) m) (m:=v+1+g9 n (fun i=>.int .i64 (z i)) (fH n (fun i=>.int .i64 (z i)) (aR n (aR n a)) u m) m) (ku:=jz n (fun i=>.int .i64 (z i)) (aR n (aR n a)) u m) (kv:=jz n (fun i=>.int .i64 (z i)) (fH n (fun i=>.int .i64 (z i)) (aR n (aR n a)) u m) v m)
  (na:=ju n (fun i=>.int .i64 (z i)) (aR n (aR n a)) u m) (nb:=ju n (fun i=>.int .i64 (z i)) (fH n (fun i=>.int .i64 (z i)) (aR n (aR n a)) u m) v m) (u:=u) (v:=v) (d:=d) (M:=d) (a0:=a) hk k4 aa aa aa aa aa aa aa aa ⟨_,agJ,?_⟩ ?_
 ·simp only[ah.all,aA,hu,hv,bn]
  exact⟨⟨h,aa,aa,aa,h.next,aa,aa,aa,aa⟩,⟨aa,k1,aa,aa,aa,aa,aa,k2,aa,aa,aa,aa,aa,aa⟩,⟨k3,aa,aa⟩,0,Nat.zero_le _,[(0,0),(1,1),(2,40961)],rfl,rfl,rfl,fV rfl aa aa (bG rfl rfl (gz ⟨aM,aM,aM,aM,⟨rfl,jd aa⟩,trivial⟩) (aC (bG rfl rfl (cB rfl (by rw[Nat.zero_mul];rfl)) trivial)))⟩
 ·refine au.gr (aH.MQ hT QL hm 60 WV ag ?_)
  simp only[ah.all,aA]
  exact⟨⟨aa,aa⟩,aa,.refl _,_,rfl,rfl,pI rfl rfl⟩
theorem afl:aW P (jD Mv) D3:=by
 refine wN fun {k n z a l v b q o} K hg ho hd hq=>?_
 unfold Mv at hg
 split at hg
 ·rename_i d m
  simp only[az,Prod.mk.injEq]at hg
  obtain⟨rfl,rfl,rfl⟩:=hg
  obtain⟨h1,h2,h3,h4⟩:1<=d/\d<900/\0<=m/\m<900:=hq
  have:=agE (k:=k) (m:=m.toNat) ho hd h1 h2 aa K
  rw[Int.toNat_of_nonneg h3]at this
  exact this
 ·simp at hg
theorem UR {b:Bool} {n:Nat} {f:Nat->AV} {a:Int} {i j:Nat}:0<(lQ b n f a i j).d:=by
 have c1:=gC (n:=n) (f:=f) (a:=jk n f a) (m:=3) aa
 have key:0<(oY n f a false).d:=by
  unfold oY
  dsimp only
  generalize cF n f (jk n f a) 3=x at*
  exact_mod_cast (show 0<1+x by omega)
 unfold lQ
 split
 ·exact key
 ·exact key
theorem aha {n m:Nat} {f:Nat->AV} {a d:Int} (h:dj n f a) (hd:1<=d) (hd2:d<=6) (hm2:m<=20):gd (iq n f a d m):=by
 have a1:=gC (n:=n) (f:=f) (a:=a) (m:=d) aa
 have a2:=gH (n:=n) (f:=f) (a:=a) (m:=d) aa
 have a3:=gC (n:=n) (f:=f) (a:=aR n a) (m:=d) aa
 have a4:=gH (n:=n) (f:=f) (a:=aR n a) (m:=d) aa
 have hJ1:=uK (n:=n) (f:=f) (a:=aR n (aR n a)) (m:=m)
 unfold iq
 obtain⟨u,eu⟩:∃u,u=dG n f a d:=⟨_,rfl⟩
 obtain⟨v,ev⟩:∃v,v=dG n f (aR n a) d:=⟨_,rfl⟩
 have hu:1+cF n f a d=(u:Int):=by rw[eu];unfold dG;omega
 have hv:1+cF n f (aR n a) d=(v:Int):=by rw[ev];unfold dG;omega
 have k1:=h.next.next
 have k2:=k1.gb (p:=u) (m:=m) aa
 have hJ2:=uK (n:=n) (f:=f) (a:=fH n f (aR n (aR n a)) u m) (m:=m)
 have n1:ju n f (aR n (aR n a)) u m=2*u+2+g9 n f (aR n (aR n a)) m:=rfl
 have n2:ju n f (fH n f (aR n (aR n a)) u m) v m=2*v+2+g9 n f (fH n f (aR n (aR n a)) u m) m:=rfl
 rw[<-eu,<-ev]
 refine⟨?_,?_,by dsimp only;omega,by dsimp only;omega,by dsimp only;omega,by dsimp only;omega,by dsimp only;rw[bn];omega,by dsimp only;rw[bn];omega,by dsimp only;omega,by dsimp only;omega,fun i j _ _=>UR⟩
 ·dsimp only
  rw[bn]
  exact(sS k1 aa _).1.done
 ·dsimp only
  rw[bn]
  exact(sS k2 aa _).1.done
structure qA (p:Pl):Prop where
 d:0<p.d
 x:Sz (cP p).n.x 20
 y:Sz (cP p).n.y 20
 z:Sz (cP p).n.z 20
 w:Sz p.d 20
 q:∀e,ff 0 (gP (cP p) e)
theorem qA.Np {p:Pl} (h:0<p.d) (hx:Sz (cP p).n.x 5) (hy:Sz (cP p).n.y 5) (hz:Sz (cP p).n.z 5) (hw:Sz p.d 5):qA p:=
 ⟨h,hx.more (by decide),hy.more (by decide),hz.more (by decide),hw.more (by decide),fun e=>match e with
  |0=>ff.xB hx
  |1=>ff.xB hy
  |2=>ff.xB hz
  |_+3=>ff.xB hw⟩
theorem W5 {n:Nat} {f:Nat->AV} {a:Int}:∃N q:Int,gx n f a*(q:Rat)=(N:Rat)/\N.natAbs<=6/\1<=q/\q<=4:=by
 have a1:=gC (n:=n) (f:=f) (a:=a) (m:=13) aa
 have a2:=gH (n:=n) (f:=f) (a:=a) (m:=13) aa
 have b1:=gC (n:=n) (f:=f) (a:=aR n (aR n a)) (m:=4) aa
 have b2:=gH (n:=n) (f:=f) (a:=aR n (aR n a)) (m:=4) aa
 unfold gx
 split
 ·refine⟨cF n f a 13-6,1+cF n f (aR n (aR n a)) 4,Rat.div_mul_cancel (fun h=>?_),aa,aa,aa⟩
  have h:((1+cF n f (aR n (aR n a)) 4:Int):Rat)=((0:Int):Rat):=h
  have:=Rat.intCast_inj.1 h
  omega
 ·exact⟨cF n f a 13-6,1,by rw[show((1:Int):Rat)=1 from rfl,Rat.mul_one],aa,aa,aa⟩
theorem Je {n:Nat} {f:Nat->AV} {a:Int} {D I e:Int} (hD:1<=D) (hD3:D<=3) (hI:0<=I) (hI2:I<=10) (he:e=4\/e=8):ff 0 ((D:Rat)*((I:Rat)+gx n f a*(((1:Int):Rat)/(e:Rat))))/\Sz ((D:Rat)*((I:Rat)+gx n f a*(((1:Int):Rat)/(e:Rat)))) 20:=by
 obtain⟨N,q,h1,h2,h3,h4⟩:=W5 (n:=n) (f:=f) (a:=a)
 have he0:(e:Rat)≠0:=fun h=>by
  have h:(e:Rat)=((0:Int):Rat):=h
  have:=Rat.intCast_inj.1 h
  omega
 constructor
 ·obtain⟨w,ew,hw⟩:=GF (v:=e*q) (by rcases he with rfl|rfl<;>omega) (by rcases he with rfl|rfl<;>omega)
  refine⟨D*(I*LQ+N*w),?_,?_⟩
  ·rw[show LQ^(0+1)=LQ by rfl]
   have e1:(LQ:Rat)=(e:Rat)*(q:Rat)*(w:Rat):=by rw[ew,Rat.intCast_mul,Rat.intCast_mul]
   have e2:gx n f a*(((1:Int):Rat)/(e:Rat))*(LQ:Rat)=(N:Rat)*(w:Rat):=by
    rw[e1,<-h1,Rat.div_def,show((1:Int):Rat)=1 from rfl,Rat.one_mul]
    have:=Rat.inv_mul_cancel (e:Rat) he0
    grind
   rw[Rat.intCast_mul,Rat.intCast_add,Rat.intCast_mul,Rat.intCast_mul]
   grind
  ·have hL:LQ=144403552893600:=rfl
   have hNw:(N*w).natAbs<=6*36100888223400:=by
    rw[Int.natAbs_mul]
    refine Nat.mul_le_mul h2 ?_
    have h5:(e*q).natAbs*w.natAbs=144403552893600:=by rw[<-Int.natAbs_mul,<-ew];rfl
    have h6:4<=(e*q).natAbs:=by rcases he with rfl|rfl<;>omega
    have:=Nat.mul_le_mul_right w.natAbs h6
    omega
   rw[Int.natAbs_mul]
   refine Nat.le_trans (Nat.mul_le_mul (show D.natAbs<=3 by omega) (show(I*LQ+N*w).natAbs<=1444035528936000+216605329340400 by rw[hL];omega)) (by decide)
 ·have s1:Sz (I:Rat) 4:=lU aa (by decide)
  have s2:Sz (gx n f a*(((1:Int):Rat)/(e:Rat))) (3+5):=CX.mul (Pv aa aa aa)
  exact((lU (x:=D) (n:=2) aa (by decide)).mul (s1.add s2)).more (by decide)
theorem XM {b:Bool} {n:Nat} {f:Nat->AV} {a:Int} {i j:Nat} (hi:i<=5) (hj:j<=5):qA (lQ b n f a i j):=by
 have b1:=gC (n:=n) (f:=f) (a:=jk n f a) (m:=3) aa
 have b2:=gH (n:=n) (f:=f) (a:=jk n f a) (m:=3) aa
 have hw:Sz ((1+cF n f (jk n f a) 3:Int):Rat) 2:=lU (x:=1+cF n f (jk n f a) 3) (n:=2) aa (by decide)
 have hp:=UR (b:=b) (n:=n) (f:=f) (a:=a) (i:=i) (j:=j)
 cases b
 ·have w5:Sz (lQ false n f a i j).d 5:=hw.more (by decide)
  obtain⟨x1,x2⟩:=Je (n:=n) (f:=f) (a:=a) (D:=1+cF n f (jk n f a) 3) (I:=2*(i:Int)) (e:=8) aa aa aa aa (.inr rfl)
  obtain⟨y1,y2⟩:=Je (n:=n) (f:=f) (a:=gM n f a) (D:=1+cF n f (jk n f a) 3) (I:=2*(j:Int)) (e:=8) aa aa aa aa (.inr rfl)
  obtain⟨z1,z2⟩:=Je (n:=n) (f:=f) (a:=gM n f (gM n f a)) (D:=1+cF n f (jk n f a) 3) (I:=0) (e:=4) aa aa aa aa (.inl rfl)
  rw[show((0:Int):Rat)=0 from rfl,Rat.zero_add]at z1 z2
  exact⟨hp,x2,y2,z2,w5.more (by decide),fun e=>match e with
   |0=>x1
   |1=>y1
   |2=>z1
   |_+3=>ff.xB w5⟩
 ·exact .Np hp (hw.mul CX) (hw.mul CX) (hw.mul CX) (hw.more (by decide))
def Ep (s:Sf):Sf:=⟨s.u,s.v,s.a,s.ku,s.b,s.kv,s.n,s.m,fun i j=>if i<s.n/\j<s.m then s.f i j else⟨⟨0,0,0⟩,1⟩⟩
theorem agl {s:Sf} {x y:Nat}:bN (aZ s x y) (aZ (Ep s) x y):=
 b7 ⟨.refl _,.refl _,.refl _,.refl _,dS fun i hi=>dS fun j hj=>tU (show s.f i j=if i<s.n/\j<s.m then s.f i j else _ from(if_pos ⟨hi,hj⟩).symm) aY,trivial⟩
theorem qA.Y6 {s:Sf} (hs:gd s) (u1:1<=s.u) (v1:1<=s.v) (iy:s.a<=20) (ig:s.b<=20) (hu:∀i,oQ (s.ku i)) (hv:∀i,oQ (s.kv i)) (hp:∀i j,qA (s.f i j)):dr s:=by
 have d:∀i j,Sz (s.f i j).n.x 2000/\Sz (s.f i j).n.y 2000/\Sz (s.f i j).n.z 2000:=fun i j=>by
  have e:=AD (Fl (hp i j).d)
  have hd:(cP (s.f i j)).d=(s.f i j).d:=rfl
  rw[<-e]
  exact⟨((hp i j).x.div (hd▸(hp i j).w)).more (by decide),((hp i j).y.div (hd▸(hp i j).w)).more (by decide),((hp i j).z.div (hd▸(hp i j).w)).more (by decide)⟩
 refine⟨hs,⟨fun i _=>(hu i).EC.sz.more (by decide),fun i _=>(hv i).EC.sz.more (by decide),fun i j _ _=>(d i j).1,fun i j _ _=>(d i j).2.1,fun i j _ _=>(d i j).2.2,fun i j _ _=>(hp i j).w.more (by decide)⟩,fun j=>?_,fun i=>?_,iy,ig⟩
 ·exact⟨⟨⟨hs.ku,u1,hs.u6,hs.a,hs.n⟩,fun i=>(hp i j).d,fun i=>(hu i).EC,fun i=>(hp i j).x,fun i=>(hp i j).y,fun i=>(hp i j).z,fun i=>(hp i j).w⟩,hu,fun i e=>(hp i j).q e⟩
 ·exact⟨⟨⟨hs.kv,v1,hs.v6,hs.b,hs.m⟩,fun j=>(hp i j).d,fun j=>(hv j).EC,fun j=>(hp i j).x,fun j=>(hp i j).y,fun j=>(hp i j).z,fun j=>(hp i j).w⟩,hv,fun j e=>(hp i j).q e⟩
theorem WI {n m:Nat} {f:Nat->AV} {a d:Int} (h:dj n f a) (hd:1<=d) (hd3:d<=3) (hm2:m<=2):dr (Ep (iq n f a d m)):=by
 have hs:=aha (m:=m) h hd aa aa
 have a1:=gC (n:=n) (f:=f) (a:=a) (m:=d) aa
 have a2:=gH (n:=n) (f:=f) (a:=a) (m:=d) aa
 have a3:=gC (n:=n) (f:=f) (a:=aR n a) (m:=d) aa
 have a4:=gH (n:=n) (f:=f) (a:=aR n a) (m:=d) aa
 have hJ1:=uK (n:=n) (f:=f) (a:=aR n (aR n a)) (m:=m)
 have hJ2:=uK (n:=n) (f:=f) (a:=fH n f (aR n (aR n a)) (dG n f a d) m) (m:=m)
 have hu:(dG n f a d:Int)=1+cF n f a d:=by unfold dG;omega
 have hv:(dG n f (aR n a) d:Int)=1+cF n f (aR n a) d:=by unfold dG;omega
 have k1:=h.next.next
 have k2:=k1.gb (p:=dG n f a d) (m:=m) aa
 have eu:(iq n f a d m).u=(dG n f a d:Nat):=rfl
 have ev:(iq n f a d m).v=(dG n f (aR n a) d:Nat):=rfl
 have en:(iq n f a d m).n=dG n f a d+1+g9 n f (aR n (aR n a)) m:=rfl
 have em:(iq n f a d m).m=dG n f (aR n a) d+1+g9 n f (fH n f (aR n (aR n a)) (dG n f a d) m) m:=rfl
 have qn:=hs.n
 have qm:=hs.m
 have hP:∀i j,qA ((Ep (iq n f a d m)).f i j):=fun i j=>by
  show qA (if i<(iq n f a d m).n/\j<(iq n f a d m).m then(iq n f a d m).f i j else⟨⟨0,0,0⟩,1⟩)
  split
  ·rename_i g
   exact XM aa aa
  ·exact .Np (by decide) ⟨by decide+kernel,by decide+kernel⟩ ⟨by decide+kernel,by decide+kernel⟩ ⟨by decide+kernel,by decide+kernel⟩ ⟨by decide+kernel,by decide+kernel⟩
 refine qA.Y6 ⟨hs.ku,hs.kv,hs.u0,hs.u6,hs.v0,hs.v6,hs.a,hs.b,hs.n,hs.m,fun i j _ _=>(hP i j).d⟩ (show 1<=(iq n f a d m).u by omega) (show 1<=(iq n f a d m).v by omega) (show(iq n f a d m).a<=20 by omega) (show(iq n f a d m).b<=20 by omega) (fun i=>?_) (fun i=>?_) hP
 ·obtain⟨z,e,h1,h2⟩:=(sS (p:=dG n f a d) k1 aa (g9 n f (aR n (aR n a)) m)).1.Ks i
  exact⟨z,e,h1,aa⟩
 ·obtain⟨z,e,h1,h2⟩:=(sS (p:=dG n f (aR n a) d) k2 aa (g9 n f (fH n f (aR n (aR n a)) (dG n f a d) m) m)).1.Ks i
  exact⟨z,e,h1,aa⟩
theorem gd.weak {s:Sf} (h:gd s):BN s:=⟨h.ku,h.kv,h.u0,h.u6,h.v0,h.v6,by have:=h.a;have:=h.u6;omega,by have:=h.b;have:=h.v6;omega,h.n,h.m⟩
theorem BN.swap {s:Sf} (h:BN s):BN (ct s):=⟨h.kv,h.ku,h.v0,h.v6,h.u0,h.u6,h.b,h.a,h.m,h.n⟩
theorem aaW:aT P kj DS (ay DS):=aU Proofs.Tryz.func148 ag ag ag
theorem aiy:aT P iK CL (ay CL):=aU Proofs.Tryz.func150 ag ag ag
theorem acO:aT P jO FJ (ay FJ):=aU Proofs.Tryz.func151 ag ag ag
def qE:bf:=nG::(kj,Fu)::(jO,Fu)::(iK,Uw)::[]
def Oe:Spec:=cq (kC (kL 2048) (kC Ed kN)) (fun _=>.int .i64 (-1)) fun a=>[a.1.1<2^40,a.2.1=kj\/a.2.1=jO]
def Nn:Spec:=cq (kC (kL 2048) (kC Ed kN)) (fun _=>.bool false) fun a=>[a.1.1<2^40,a.2.1=kj\/a.2.1=jO]
def Na:bf:=nG::(Fb,Oe)::[]
def Ra:Spec:=cq (kC (qV 2048) (kC Ed kN)) (fun _=>.int .i64 (-1)) fun a=>[a.1.1<2^40,∀i,i<a.1.1->0<(a.1.2 i).d,a.2.1=iK]
def Ns:Spec:=cq (kC (qV 2048) (kC Ed kN)) (fun _=>.bool false) fun a=>[a.1.1<2^40,∀i,i<a.1.1->0<(a.1.2 i).d,a.2.1=iK]
def SJ:bf:=nG::(Eb,Ra)::[]
theorem ann {q:Rat} {n:Nat}:bU T Fv [] 60 DS (ay DS) ⟨aP 0 [.rat q n],[],0⟩=
  some (aj [(0:Nat)<1,n<2^44] (leaf ret [AV.bool false])):=ag
theorem aeb {q:Rat} {n:Nat}:bU T Fv [] 60 FJ (ay FJ) ⟨aP 0 [.rat q n],[],0⟩=
  some (aj [(0:Nat)<1,n<2^44] (leaf ret [AV.bool (decide ((↑(cZ q):Int)>2048))])):=ag
theorem ac8 {p:Pl}:bU T Fv [] 60 CL (ay CL) ⟨aP 0 [bh p 2048],[],0⟩=
  some (aj [(0:Nat)<1,(2048:Nat)<2^42] (leaf ret [AV.bool (decide (fD p.d<=0))])):=ag
theorem Td {n:Nat} {k:Nat->Rat} {g:FuncId}:aG T qE [] 60 lf (before qD [1,0,1]) ⟨aP 0 [br k n 2048,.func g []],[],0⟩=
  some (leaf normal ([int i64 0,aq 3 n fun i=>rat (k i) 2048,func g [],int i64 (↑n:Int),int i64 0],[])):=ag
theorem anK {n i:Nat} {k:Nat->Rat}:aG T qE [9] 60 lf [part qD [1,0,1,0,0]] ⟨aB lf (A3 n i k kj),[],0⟩=
  let c4:Int:=(↑n:Int);let c2:AV:=aq 3 n fun i=>rat (k i) 2048;let c1:Int:=(↑i:Int);let c3:Int:=c1+1;some (fork (decide (c1<c4)) (aj [(0:Int)<=c1/\c1.toNat<n,(2048:Nat)<=2048] (aj [-(2:Int)^63<=c3/\c3<2^63] (leaf normal ([int i64 0,c2,func kj [],int i64 c4,int i64 c3],[])))) (leaf (exit 0) ([int i64 0,c2,func kj [],int i64 c4,int i64 c1],[]))):=ag
theorem aib {n i:Nat} {k:Nat->Rat}:aG T qE [9] 60 lf [part qD [1,0,1,0,0]] ⟨aB lf (A3 n i k jO),[],0⟩=
  let c4:Int:=(↑n:Int);let c2:AV:=aq 3 n fun i=>rat (k i) 2048;let c1:Int:=(↑i:Int);let c3:Int:=c1+1;some (fork (decide (c1<c4)) (aj [(0:Int)<=c1/\c1.toNat<n,(2048:Nat)<=2048] (aj [-(2:Int)^63<=c3/\c3<2^63] (leaf normal ([int i64 0,c2,func jO [],int i64 c4,int i64 c3],[])))) (leaf (exit 0) ([int i64 0,c2,func jO [],int i64 c4,int i64 c1],[]))):=ag
theorem R6 {n i:Nat} {k:Nat->Rat} {g:FuncId}:cj T qE [] 60 Dd [part qD [1,1]] ⟨aB lf (A3 n i k g),[],0⟩=
  some (leaf ret [int i64 (-1:Int)]):=ag
theorem ajN {n:Nat} {f:Nat->Pl}:aG T qE [] 60 lf (before yO [1,0,1]) ⟨aP 0 [bH f n 2048,.func iK []],[],0⟩=
  some (leaf normal ([int i64 0,aq 12 n fun i=>bh (f i) 2048,func iK [],int i64 (↑n:Int),int i64 0],[])):=ag
theorem akq {n i:Nat} {f:Nat->Pl}:aG T qE [9] 60 lf [part yO [1,0,1,0,0]] ⟨aB lf (HW n i f iK),[],0⟩=
  let c5:Int:=(↑n:Int);let c3:Prop:=2048<=2048;let c2:Int:=(↑i:Int);let c1:AV:=aq 12 n fun i=>bh (f i) 2048;let c4:Int:=c2+1;some (fork (decide (c2<c5)) (aj [(0:Int)<=c2/\c2.toNat<n,c3,c3,Max.max 2048 2048<=2048,(0:Rat)<(f c2.toNat).d] (aj [-(2:Int)^63<=c4/\c4<2^63] (leaf normal ([int i64 0,c1,func iK [],int i64 c5,int i64 c4],[])))) (leaf (exit 0) ([int i64 0,c1,func iK [],int i64 c5,int i64 c2],[]))):=ag
theorem aan {n i:Nat} {f:Nat->Pl}:cj T qE [] 60 Ft [part yO [1,1]] ⟨aB lf (HW n i f iK),[],0⟩=
  some (leaf ret [int i64 (-1:Int)]):=ag
theorem aot {n:Nat} {k:Nat->Rat} {g:FuncId}:bU T Na [] 60 Ca (ay Ca) ⟨aP 0 [br k n 2048,.func g []],[],0⟩=
  some (aj [bt (fun i=>rat (k i) 2048) n 2048,n<2^40,g=kj\/g=jO] (leaf ret [AV.bool false])):=ag
theorem aku {n:Nat} {f:Nat->Pl}:bU T SJ [] 60 BY (ay BY) ⟨aP 0 [bH f n 2048,.func iK []],[],0⟩=
  some (aj [ki (fun i=>bh (f i) 2048) n 2048,n<2^40,∀(i:Nat),i<n->0<aL (rat (f i).d 2048),iK=iK] (leaf ret [AV.bool false])):=ag
theorem aak:aW P Fu kj:=by
 refine cJ fun K args r hk hs _=>?_
 split at hs
 ·rename_i q n
  simp only[az]at hs
  subst hs
  intro need
  have hn:n<=2048:=need
  refine bZ (r:=aJ (.bool false) [n<=2048]) hT Mc hm aaW rfl aX rfl 60 ann (fun _=>?_) K [] need
  simp only[ah.all,aA]
  (repeat' with_reducible refine And.intro ?_ ?_)
  all_goals first|omega|exact .refl _|skip
 ·simp at hs
theorem afD:aW P Fu jO:=by
 refine cJ fun K args r hk hs _=>?_
 split at hs
 ·rename_i q n
  simp only[az]at hs
  subst hs
  intro need
  have hn:n<=2048:=need
  refine(jV (P:=P) (f:=jO) (K:=K) (args:=[.rat q n]) (pre:=[]) (v:=.bool false) (l:=[n<=2048]) fun⟨hs1,_⟩=>?_) need
  have h1:=acn.1 hs1
  refine bZ (r:=aJ (.bool false) [n<=2048]) hT Mc hm acO rfl aX rfl 60 aeb (fun _=>?_) K []
  simp only[ah.all,aA]
  (repeat' with_reducible refine And.intro ?_ ?_)
  all_goals first|omega|skip
  exact gl (decide_eq_false aa)
 ·simp at hs
theorem ajQ:aW P Uw iK:=ck fun⟨p,_⟩ K hn=>by
 have hd:0<p.d:=hn
 refine bZ (r:=aJ (.bool false) []) hT Mc hm aiy rfl aX rfl 60 ac8 (fun _=>?_) K []
 have hs:fD p.d=1:=by
  unfold fD
  rw[if_neg (by grind),if_pos hd]
 simp only[ah.all,aA,hs]
 (repeat' with_reducible refine And.intro ?_ ?_)
 all_goals first|omega|decide|exact .refl _|skip
theorem KY:bu P qE:=cz (aI aak (aI afD (aI ajQ bz)))
theorem ajM {n:Nat} {k:Nat->Rat} {g:FuncId} (hn:n<2^40) (hg:g=kj\/g=jO) (K:Nat):aQ P Fb K [br k n 2048,.func g []] [] (aJ (.int .i64 (-1)) []):=by
 rcases hg with rfl|rfl
 ·refine ij (r:=aJ (.int .i64 (-1)) []) hT KY hm Ok rfl aX rfl [1,0,1] (i:=0) (y:=part qD [1,0,1,0,0]) (z:=part qD [1,1]) ag ag ag (f1:=[]) (f2:=[9]) (f3:=[]) 60 lf 0
   (fun i:Nat=>A3 n i k kj) (fun _=>[]) (fun i=>i<=n) (fun i=>i=n) (fun i=>n-i) (fun _=>⟨⟨_,Td,?_⟩,fun i hi=>⟨_,anK,?_⟩,fun i hi=>⟨_,R6,?_⟩⟩) K []
  ·simp only[ah.all,aA]
   exact⟨0,Nat.zero_le _,[],rfl,rfl,rfl,trivial⟩
  ·simp only[ah.all,aA,bq,bw,bn]
   exact⟨fun h=>⟨⟨aa,aa⟩,aa,i+1,aa,by dsimp only;omega,[],rfl,rfl,rfl,trivial⟩,fun h=>⟨rfl,i,aa,[],rfl,rfl,rfl,trivial⟩⟩
  ·simp only[ah.all,aA]
   exact .refl _
 ·refine ij (r:=aJ (.int .i64 (-1)) []) hT KY hm Ok rfl aX rfl [1,0,1] (i:=0) (y:=part qD [1,0,1,0,0]) (z:=part qD [1,1]) ag ag ag (f1:=[]) (f2:=[9]) (f3:=[]) 60 lf 0
   (fun i:Nat=>A3 n i k jO) (fun _=>[]) (fun i=>i<=n) (fun i=>i=n) (fun i=>n-i) (fun _=>⟨⟨_,Td,?_⟩,fun i hi=>⟨_,aib,?_⟩,fun i hi=>⟨_,R6,?_⟩⟩) K []
  ·simp only[ah.all,aA]
   exact⟨0,Nat.zero_le _,[],rfl,rfl,rfl,trivial⟩
  ·simp only[ah.all,aA,bq,bw,bn]
   exact⟨fun h=>⟨⟨aa,aa⟩,aa,i+1,aa,by dsimp only;omega,[],rfl,rfl,rfl,trivial⟩,fun h=>⟨rfl,i,aa,[],rfl,rfl,rfl,trivial⟩⟩
  ·simp only[ah.all,aA]
   exact .refl _
theorem agM:aW P Oe Fb:=ck fun⟨⟨n,k⟩,g,_⟩ K hn=>ajM hn.1 hn.2 K
theorem ak4:bu P Na:=cz (aI agM bz)
theorem abP:aW P Nn Kv:=ck fun⟨⟨n,k⟩,g,_⟩ K hn=>by
 refine bZ (r:=aJ (.bool false) []) hT ak4 hm afq rfl aX rfl 60 aot (fun _=>?_) K []
 simp only[ah.all,aA]
 exact⟨⟨bP aY,hn.1,hn.2⟩,.refl _⟩
theorem Yf {n:Nat} {f:Nat->Pl} (hn:n<2^40) (hf:∀i,i<n->0<(f i).d) (K:Nat):aQ P Eb K [bH f n 2048,.func iK []] [] (aJ (.int .i64 (-1)) []):=by
 refine ij (r:=aJ (.int .i64 (-1)) []) hT KY hm aeL rfl aX rfl [1,0,1] (i:=0) (y:=part yO [1,0,1,0,0]) (z:=part yO [1,1]) ag ag ag (f1:=[]) (f2:=[9]) (f3:=[]) 60 lf 0
  (fun i:Nat=>HW n i f iK) (fun _=>[]) (fun i=>i<=n) (fun i=>i=n) (fun i=>n-i) (fun _=>⟨⟨_,ajN,?_⟩,fun i hi=>⟨_,akq,?_⟩,fun i hi=>⟨_,aan,?_⟩⟩) K []
 ·simp only[ah.all,aA]
  exact⟨0,Nat.zero_le _,[],rfl,rfl,rfl,trivial⟩
 ·simp only[ah.all,aA,bq,bw,bn]
  exact⟨fun h=>⟨⟨aa,aa,aa,by decide,hf i aa⟩,aa,i+1,aa,by dsimp only;omega,[],rfl,rfl,rfl,trivial⟩,fun h=>⟨rfl,i,aa,[],rfl,rfl,rfl,trivial⟩⟩
 ·simp only[ah.all,aA]
  exact .refl _
theorem amj:aW P Ra Eb:=ck fun⟨⟨n,f⟩,g,_⟩ K hn=>by
 have hg:g=iK:=hn.2.2
 subst hg
 exact Yf hn.1 hn.2.1 K
theorem XQ:bu P SJ:=cz (aI amj bz)
theorem ag7:aW P Ns HH:=ck fun⟨⟨n,f⟩,g,_⟩ K hn=>by
 have hg:g=iK:=hn.2.2
 subst hg
 refine bZ (r:=aJ (.bool false) []) hT XQ hm amN rfl aX rfl 60 aku (fun _=>?_) K []
 simp only[ah.all,aA]
 exact⟨⟨nw aY,hn.1,hn.2.1,by trivial⟩,.refl _⟩
end Go.Am.B
