/- Products, derivatives, divisors of polynomials; the greatest common divisor; the square-free part is short. -/
import Derived.Test.YtolopdkjjlfgjaaGreatY38
import Derived.Test.YtolopdkjjlfgjaaGreatY37
import Derived.Test.YtolopdkjjlfgjaaGreatZ2
set_option linter.unusedVariables false
noncomputable section
namespace Go.Am
def EU (a b:PP):PP:=(max a.1 b.1,fun i=>ek a i+ek b i)
def AH (r:Rat) (a:PP):PP:=(a.1,fun i=>r*a.2 i)
def fh (a b:PP):PP:=(a.1+b.1+1,jv a.1 b.1 (ek a) (ek b))
theorem HD {a b:PP} {t:Rat}:bN (EU a b) t=bN a t+bN b t:=by
 show ev (max a.1 b.1) (fun i=>ek a i+ek b i) t=_
 rw[tL,pg (Nat.le_max_left _ _),pg (Nat.le_max_right _ _)]
theorem Cz {r:Rat} {a:PP} {t:Rat}:bN (AH r a) t=r*bN a t:=uA
theorem Dt {m n:Nat} {f g:Nat->Rat}:sg (fun i=>sg (fun j=>f i*g j) n) m=sg f m*sg g n:=by
 rw[Rat.mul_comm,<-j3]
 exact fN fun i _=>by rw[j3,Rat.mul_comm]
theorem jb {a b:PP} {t:Rat}:bN (fh a b) t=bN a t*bN b t:=by
 rw[<-pg (a:=a) (Nat.le_succ a.1),<-pg (a:=b) (Nat.le_succ b.1)]
 show sg (fun k=>jv a.1 b.1 (ek a) (ek b) k*t^k) (a.1+b.1+1)=_
 rw[Cf (X:=fun k=>t^k)]
 unfold ev
 rw[<-Dt]
 exact fN fun i _=>fN fun j _=>by rw[pow_add'];grind
def dX (t:Rat) (i:Nat):Rat:=((i:Int):Rat)*t^(i-1)
theorem adS {t:Rat} {i j:Nat}:dX t (i+j)=dX t i*t^j+t^i*dX t j:=by
 unfold dX
 cases i with
 |zero=>
  rw[Nat.zero_add,Rat.pow_zero,show((0:Nat):Int)=0 from rfl,show((0:Int):Rat)=0 from rfl];grind
 |succ i=>
  cases j with
  |zero=>rw[Nat.add_zero,Rat.pow_zero,show((0:Nat):Int)=0 from rfl,show((0:Int):Rat)=0 from rfl];grind
  |succ j=>
   rw[show i+1+(j+1)-1=i+(j+1) by omega,show i+1-1=i by omega,show j+1-1=j by omega,show((i+1+(j+1):Nat):Int)=((i+1:Nat):Int)+((j+1:Nat):Int) by omega,Rat.intCast_add,pow_add',Rat.pow_succ,Rat.pow_succ];grind
def nE (a:PP) (t:Rat):Rat:=sg (fun i=>a.2 i*dX t i) a.1
theorem y9 {a:PP} {t:Rat} {m:Nat} (h:a.1<=m):sg (fun i=>ek a i*dX t i) m=nE a t:=by
 rw[vq (n:=a.1) (fun i h1 h2=>by unfold ek;rw[if_neg (by omega),Rat.zero_mul]) h]
 exact fN fun i hi=>by unfold ek;rw[if_pos hi]
theorem pN {a:PP} {t:Rat}:bN (cP a) t=nE a t:=by
 have e1:bN (cP a) t=ev (a.1-1) (dx a.2) t:=sZ
 rw[e1]
 unfold nE
 rcases Nat.eq_zero_or_pos a.1 with h|h
 ·rw[h];rfl
 ·obtain⟨n,hn⟩:∃n,a.1=n+1:=⟨a.1-1,by omega⟩
  rw[hn,pQ,show n+1-1=n by omega]
  have:dX t 0=0:=by unfold dX;rw[show((0:Nat):Int)=0 from rfl,show((0:Int):Rat)=0 from rfl,Rat.zero_mul]
  rw[this,Rat.mul_zero,Rat.zero_add]
  refine fN fun i _=>?_
  unfold dx dX
  rw[show i+1-1=i by omega];grind
theorem Kx {a b:PP} (h:∀t,bN a t=bN b t) (t:Rat):nE a t=nE b t:=by
 rw[<-y9 (Nat.le_max_left a.1 b.1),<-y9 (Nat.le_max_right a.1 b.1)]
 exact fN fun i _=>by rw[qp h i]
theorem Cx {a b c:PP} (h:∀t,bN c t=bN a t*bN b t) (t:Rat):nE c t=nE a t*bN b t+bN a t*nE b t:=by
 rw[Kx (b:=fh a b) (fun t=>by rw[h,jb]) t]
 show sg (fun k=>jv a.1 b.1 (ek a) (ek b) k*dX t k) (a.1+b.1+1)=_
 rw[Cf (X:=dX t),<-y9 (a:=a) (Nat.le_succ a.1),<-y9 (a:=b) (Nat.le_succ b.1),<-pg (a:=a) (Nat.le_succ a.1),<-pg (a:=b) (Nat.le_succ b.1)]
 unfold ev
 rw[<-Dt,<-Dt,<-oE]
 refine fN fun i _=>?_
 rw[<-oE]
 exact fN fun j _=>by rw[adS];grind
def Dv (h a:PP):Prop:=∃w:PP,∀t,bN a t=bN h t*bN w t
def kz:PP:=(1,fun _=>1)
theorem oO {t:Rat}:bN kz t=1:=by show 0+1*t^0=1;rw[Rat.pow_zero];grind
theorem Dv.refl (a:PP):Dv a a:=⟨kz,fun t=>by rw[oO,Rat.mul_one]⟩
theorem Dv.of_eq {h a b:PP} (hd:Dv h a) (e:∀t,bN a t=bN b t):Dv h b:=hd.imp fun w hw t=>by rw[<-e,hw]
theorem Dv.trans {a b c:PP} (h1:Dv a b) (h2:Dv b c):Dv a c:=by
 obtain⟨v,hv⟩:=h1
 obtain⟨w,hw⟩:=h2
 exact⟨fh v w,fun t=>by rw[hw,hv,jb,Rat.mul_assoc]⟩
theorem Dv.comb {h a b c u v:PP} (ha:Dv h a) (hb:Dv h b) (e:∀t,bN c t=bN u t*bN a t+bN v t*bN b t):Dv h c:=by
 obtain⟨x,hx⟩:=ha
 obtain⟨y,hy⟩:=hb
 exact⟨EU (fh u x) (fh v y),fun t=>by rw[e,hx,hy,HD,jb,jb];grind⟩
theorem Dv.C8 {h a:PP} (ha:Dv h a) (r:Rat) {b:PP} (e:∀t,bN b t=r*bN a t):Dv h b:=by
 obtain⟨x,hx⟩:=ha
 exact⟨AH r x,fun t=>by rw[e,hx,Cz];grind⟩
theorem Dv.rem {h a d:PP} (hd:0<d.1) (h1:Dv h a) (h2:Dv h d):Dv h (dP a d):=
 Dv.comb (u:=kz) (v:=AH (-1) (gD a d)) h1 h2 fun t=>by rw[Ar (a:=a) hd t,oO,Cz];grind
theorem KH {a:PP} {t:Rat}:bN (jf a) t=(a.2 (a.1-1))⁻¹*bN a t:=by
 show ev a.1 (dh a.1 a.2) t=_
 rw[show bN a t=ev a.1 a.2 t from rfl,<-uA]
 exact nO fun i _=>by unfold dh;rw[Rat.div_def,Rat.mul_comm]
theorem SQ {a:PP} (ha:Trim a) {t:Rat}:bN a t=a.2 (a.1-1)*bN (jf a) t:=by
 rw[KH,<-Rat.mul_assoc]
 rcases ha with h|h
 ·have:bN a t=0:=by show ev a.1 a.2 t=0;rw[h];rfl
  rw[this,Rat.mul_zero]
 ·rw[Rat.mul_inv_cancel _ h,Rat.one_mul]
theorem Dv.dh {h a:PP} (h1:Dv h a):Dv h (jf a):=h1.C8 _ fun _=>KH
theorem Dv.Mg {h a:PP} (ha:Trim a) (h1:Dv h (jf a)):Dv h a:=h1.C8 _ fun _=>SQ ha
theorem Ms {h:PP} {s:PP×PP} (h1:Dv h s.1) (h2:Dv h s.2):∀j,Dv h (bZ s j).1/\Dv h (bZ s j).2
 |0=>⟨h1,h2⟩
 |j+1=>by
  obtain⟨i1,i2⟩:=Ms h1 h2 j
  show Dv h (fX _).1/\Dv h (fX _).2
  unfold fX
  by_cases h0:(bZ s j).2.1=0
  ·rw[if_pos h0];exact⟨i1,i2⟩
  ·rw[if_neg h0];exact⟨i2,(i1.rem (by omega) i2).dh⟩
theorem EI {h a b:PP} (h1:Dv h a) (h2:Dv h b):Dv h (cG a b):=(Ms (s:=(a,b)) h1 h2 _).1.dh
theorem ED {h:PP} {s:PP×PP} (t1:Trim s.1) (t2:Trim s.2):∀j,Dv h (bZ s j).1->Dv h (bZ s j).2->Dv h s.1/\Dv h s.2
 |0,h1,h2=>⟨h1,h2⟩
 |j+1,h1,h2=>by
  have h1:Dv h (fX (bZ s j)).1:=h1
  have h2:Dv h (fX (bZ s j)).2:=h2
  unfold fX at h1 h2
  by_cases h0:(bZ s j).2.1=0
  ·rw[if_pos h0]at h1 h2;exact ED t1 t2 j h1 h2
  ·rw[if_neg h0]at h1 h2
   refine ED t1 t2 j (Dv.comb (u:=gD (bZ s j).1 (bZ s j).2) (v:=kz) h1 (h2.Mg qA) fun t=>?_) h1
   rw[oO,Rat.one_mul]
   exact Ar (a:=(bZ s j).1) (d:=(bZ s j).2) (by omega) t
theorem iN {a:PP} (h:a.1=0) (t:Rat):bN a t=0:=by show ev a.1 a.2 t=0;rw[h];rfl
theorem Fo {a b:PP} (t1:Trim a) (t2:Trim b):Dv (cG a b) a/\Dv (cG a b) b:=by
 have h0:(bZ (a,b) b.1).2.1=0:=by have:=Ai (s:=(a,b)) t1 t2 b.1;dsimp only at this;omega
 have ht:=pe (s:=(a,b)) t1 t2 b.1
 refine ED (s:=(a,b)) t1 t2 b.1 (Dv.Mg ht.1 (Dv.refl _)) ⟨(0,fun _=>0),fun t=>?_⟩
 rw[iN h0,iN (a:=(0,fun _=>(0:Rat))) rfl,Rat.mul_zero]
theorem EJ {a:PP} (h:0<a.1) (ht:Trim a):ek a (a.1-1)≠0:=by
 unfold ek
 rw[if_pos (by omega)]
 rcases ht with h'|h'
 ·omega
 ·exact h'
theorem IT {a b:PP} (ha:0<a.1) (hb:0<b.1) (ta:Trim a) (tb:Trim b):ek (fh a b) (a.1-1+(b.1-1))≠0:=by
 have e:ek (fh a b) (a.1-1+(b.1-1))=jv a.1 b.1 (ek a) (ek b) (a.1-1+(b.1-1)):=by
  show(if _<a.1+b.1+1 then _ else _)=_
  rw[if_pos (by omega)];rfl
 rw[e]
 unfold jv
 have z:∀{c:PP} {i:Nat},c.1<=i->ek c i=0:=fun h=>by unfold ek;rw[if_neg (by omega)]
 rw[xD (i:=a.1-1) (by omega) fun i hi hne=>lE fun j hj=>by
  by_cases h:i+j=a.1-1+(b.1-1)
  ·rw[if_pos h]
   by_cases h2:a.1<=i
   ·rw[z h2,Rat.zero_mul]
   ·rw[z (c:=b) (i:=j) (by omega),Rat.mul_zero]
  ·rw[if_neg h],xD (i:=b.1-1) (by omega) fun j hj hne=>if_neg (by omega),if_pos rfl]
 exact fun h0=>(Rat.mul_eq_zero.1 h0).elim (EJ ha ta) (EJ hb tb)
def gV (a:PP):PP:=(bO a.2 a.1,a.2)
theorem mH {a:PP} (t:Rat):bN (gV a) t=bN a t:=sZ
theorem nI {a:PP}:Trim (gV a):=lJ
theorem Dm {a b c:PP} (h:∀t,bN c t=bN a t*bN b t) (hc:0<c.1) (tc:Trim c) (ta:Trim a) (tb:Trim b):0<a.1/\0<b.1/\c.1=a.1-1+(b.1-1)+1:=by
 have h0:¬∀t,bN c t=bN (0,fun _=>0) t:=fun h1=>by
  have:=ve tc fun i=>qp h1 i
  dsimp only at this;omega
 have ha:0<a.1:=by
  rcases Nat.eq_zero_or_pos a.1 with h1|h1
  ·exact absurd (fun t=>by rw[h,iN h1,iN (a:=(0,fun _=>(0:Rat))) rfl,Rat.zero_mul]) h0
  ·exact h1
 have hb:0<b.1:=by
  rcases Nat.eq_zero_or_pos b.1 with h1|h1
  ·exact absurd (fun t=>by rw[h,iN h1,iN (a:=(0,fun _=>(0:Rat))) rfl,Rat.mul_zero]) h0
  ·exact h1
 have hcf:∀i,ek c i=ek (fh a b) i:=qp fun t=>by rw[h,jb]
 refine⟨ha,hb,?_⟩
 have h1:a.1-1+(b.1-1)<c.1:=by
  rcases Nat.lt_or_ge (a.1-1+(b.1-1)) c.1 with h2|h2
  ·exact h2
  ·exact absurd (by rw[<-hcf];unfold ek;rw[if_neg (by omega)]) (IT ha hb ta tb)
 have h2:¬a.1-1+(b.1-1)+1<c.1:=fun h3=>by
  have:=EJ hc tc
  rw[hcf]at this
  refine this ?_
  show(if _<a.1+b.1+1 then jv a.1 b.1 (ek a) (ek b) (c.1-1)else 0)=0
  split
  ·unfold jv
   refine lE fun i hi=>lE fun j hj=>?_
   have z:∀{c:PP} {i:Nat},c.1<=i->ek c i=0:=fun h=>by unfold ek;rw[if_neg (by omega)]
   by_cases h4:i+j=c.1-1
   ·rw[if_pos h4]
    by_cases h5:a.1<=i
    ·rw[z h5,Rat.zero_mul]
    ·rw[z (c:=b) (i:=j) (by omega),Rat.mul_zero]
   ·rw[if_neg h4]
  ·rfl
 omega
theorem Dv.len {h g:PP} (hd:Dv h g) (hg:0<g.1) (tg:Trim g) (th:Trim h):h.1<=g.1:=by
 obtain⟨w,hw⟩:=hd
 have:=Dm (b:=gV w) (fun t=>by rw[hw,mH]) hg tg th nI
 omega
structure j6 (c h f:PP):Prop where
 eq:∀t,bN c t=bN h t*bN f t
 dv:Dv h (cP c)
theorem j6.one:j6 kz kz kz:=⟨fun t=>by rw[oO,Rat.mul_one],⟨cP kz,fun t=>by rw[oO,Rat.one_mul]⟩⟩
theorem j6.SX {c h f q c':PP} (s:j6 c h f) (e:∀t,bN c' t=bN c t*bN q t):j6 c' h (fh f q):=
 ⟨fun t=>by rw[e,s.eq,jb,Rat.mul_assoc],Dv.comb (u:=q) (v:=cP q) s.dv ⟨f,s.eq⟩ fun t=>by rw[pN,Cx e,pN,pN];grind⟩
theorem j6.Yl {c h f q c':PP} (s:j6 c h f) (e:∀t,bN c' t=bN c t*bN q t*bN q t):j6 c' (fh h q) (fh f q):=by
 refine⟨fun t=>by rw[e,s.eq,jb,jb];grind,?_⟩
 obtain⟨w,hw⟩:=s.dv
 refine⟨EU (fh w q) (AH 2 (fh f (cP q))),fun t=>?_⟩
 have e1:∀t,bN (fh c q) t=bN c t*bN q t:=fun t=>jb
 have e2:∀t,bN c' t=bN (fh c q) t*bN q t:=fun t=>by rw[e,e1]
 have hw':nE c t=bN h t*bN w t:=by rw[<-pN];exact hw t
 rw[pN,Cx e2,Cx e1,e1,hw',HD,Cz,jb,jb,jb,pN,s.eq]
 grind
end Go.Am
namespace Go.Am.B
open Go Go.Am.N AV af aq IntKind Proofs.Tryz
def mu (d:Nat):bg:=nG::(57,uE)::(59,AW)::(qm,Bz)::(mh,oL d)::(70,Dn)::(72,yN)::(73,xJ)::(74,G9)::gA
abbrev BM:Code:=aG f18
abbrev xz:Code:=part BM [1,1,1,1,1,1,1,1,1]
abbrev sI:Code:=part xz [1,1,1,1,1]
abbrev xy:Code:=part sI [0,1,0,0]
abbrev ue:Code:=part xy [1,0,0]
abbrev Et:List Nat:=[2,3,4,6,7,8,9,10]
abbrev LC (a:PP):List AV:=[.nil,.int .i64 0,aP a,.ptr 0 0 1 0 [],.ptr 3 0 1 0 [],.ptr 1 0 1 0 [],.ptr 4 0 3 0 [],.ptr 5 0 3 0 []]
abbrev I3 (n:Nat) (c:Nat->PP) (l:List (Rat×Rat)):aE:=[(0,sr 2 l.length),(1,rJ n c 0 1),(2,rE l),(3,⟨false,false,1,1,fun _=>Ab n c⟩),(4,tR 0 ah),(5,tR 1 ah)]
abbrev tZ:List Nat:=[4,11,50,51,52]
abbrev J0 (l:List (Rat×Rat)) (g:Nat->Nat) (m:Nat):ay:=⟨true,true,7,m,fun j=>.agg [cS l j,.int .i64 (g j)]⟩
abbrev zK (a:PP) (m i:Nat):List AV:=[aP a,.own 1 7 0 i,.own 0 6 0 m,.int .i64 m,.int .i64 i]
abbrev xN (l:List (Rat×Rat)) (g:Nat->Nat) (i:Nat):aE:=[(0,rE l),(1,J0 l g i)]
abbrev qT:List Nat:=[4,11]
abbrev x5 (a:PP) (m:Nat):List AV:=[aP a,.own 0 7 0 m]
abbrev q9 (l:List (Rat×Rat)) (g:Nat->Nat) (m:Nat):aE:=[(0,J0 l g m)]
abbrev vp:List Nat:=[4,11,14,75,76,77]
abbrev Eh (a:PP) (n:Nat) (c:Nat->PP) (m i:Nat):List AV:=[aP a,.own 0 7 0 m,gZ n c,.own 0 7 0 m,.int .i64 m,.int .i64 i]
abbrev vN (v w:AV):ay:=⟨false,true,1,1,fun j=>if(j==0)=true then v else w⟩
abbrev vM (v w:AV):ay:=⟨false,true,3,1,fun j=>if(j==0)=true then v else w⟩
def fq (a:PP):Nat->PP
 |0=>cG a (cP a)
 |j+1=>cG (fq a j) (cP (fq a j))
def ot (a:PP):Nat->Nat->Nat
 |0,j=>j
 |f+1,j=>if 1<(fq a j).1 then ot a f (j+1)else j
def j0 (a:PP) (l:List (Rat×Rat)):Nat->Nat->Nat
 |0,_=>1
 |j+1,i=>if sA (dm (fq a j)) (dz (fq a j)) (cB l i).1 (cB l i).2=true then j0 a l j i+1 else j0 a l j i
def Kq (d n:Nat) (c:Nat->PP):List (Rat×Rat):=(if fQ (c 0) 0=0 then [(0,0)]else [])++eF n c d 0 1++(if fQ (c 0) 1=0 then [(1,1)]else [])
def jh (d:Nat) (p:PP):List (Rat×Rat):=if(aC p).1=0 then []else Kq d (dm (aC p)) (dz (aC p))
def pU (d:Nat) (p:PP) (i:Nat):Nat:=j0 (aC p) (jh d p) (ot (aC p) (aC p).1 0) i
abbrev vR (l:List (Rat×Rat)) (g:Nat->Nat) (j:Nat):AV:=.agg [cS l j,.int .i64 (g j)]
abbrev Ch (d:Nat) (p:PP):AV:=.tuple [.ak 7 (jh d p).length (vR (jh d p) (pU d p)),.int .i64 (if(aC p).1=0 then 3 else 0)]
def EO (x:PP):Prop:=cu (x.1-1) (dx x.2)/\j9 (x,cP x)
def yG (d:Nat) (p:PP):Prop:=ej p/\((aC p).1≠0->pM (aC p)/\dm (aC p)<2^40/\eA (dm (aC p)) (dz (aC p)) 0/\eA (dm (aC p)) (dz (aC p)) 1/\mQ (dm (aC p)) (dz (aC p)) d 0 1/\(jh d p).length<2^30/\EO (aC p)/\
 ∀j,1<(fq (aC p) j).1->EO (fq (aC p) j)/\pM (fq (aC p) j)/\dm (fq (aC p) j)<2^40/\∀i,i<(jh d p).length->eA (dm (fq (aC p) j)) (dz (fq (aC p) j)) (cB (jh d p) i).1/\eA (dm (fq (aC p) j)) (dz (fq (aC p) j)) (cB (jh d p) i).2)
theorem K7:aX 18 f18:=aY func18
theorem WH {d:Nat} {p:PP}:aH T (mu d) [20] 60 Et (before BM [1,1,1,1,1,1,1,1,1]) ⟨aS 0 [aP p],[],0⟩=
  some (aj [aR p,ej p] (fork (((aC p).1:Int)==0) (leaf ret ([.nil,.int .i64 3,aP (aC p),.tuple [],.tuple [],.tuple [],.tuple [],.tuple []],[]))
   (aj [aR (aC p),pM (aC p),(0:Nat)<1] (aj [(0:Nat)<1] (aj [(0:Nat)<1] (aj [-2^63<=(0:Int),(0:Int)<2^63,-2^63<=(1:Int),(1:Int)<2^63,(0:Nat)<1,(0:Nat)<1]
    (leaf normal ([.nil,.int .i64 0,aP (aC p),.ptr 49152 0 1 0 [],.ptr 57344 0 1 0 [],.ptr 65536 0 1 0 [],.ptr 86016 0 3 0 [],.ptr 90112 0 3 0 []],
     [(65536,vN (Ji (dm (aC p)) (dz (aC p)) 49152 65536) .void),(49152,⟨false,true,1,1,fun _=>.nil⟩),(90112,vM (.rat ((1:Int):Rat) (max 1 (bI (Int.natAbs 1)))) (.rat 0 1)),(86016,vM (.rat ((0:Int):Rat) (max 1 (bI (Int.natAbs 0)))) (.rat 0 1)),(57344,⟨false,false,1,1,fun j=>if(j==0)=true then Ab (dm (aC p)) (dz (aC p))else .void⟩)])))))))):=ag
theorem UF {d n:Nat} {c:Nat->PP} {a:PP} {l:List (Rat×Rat)}:aH T (mu d) [29,41] 60 tZ (before xz [1,1,1,1,0,1]) ⟨aD Et (LC a),I3 n c l,6⟩=
  let c36:AV:=rat 0 1;let c35:Prop:=n<2^40;let c30:Prop:=0<n;let c29:Nat:=l.length;let c28:Nat:=2^47;let c27:Nat:=112+1;let c26:PP:=de (aP (c 0));let c25:AV:=rat 1 ah;let c24:AV:=own 73734 7 0 0;let c23:Prop:=ah<=ah;let c22:Prop:=mQ n (fun i=>de (aP (c i))) d 0 1;let c21:Int:=(↑(120:Nat):Int);let c20:Prop:=(0:Int)<=0;let c17:List AV:=[int i64 0];let c16:Prop:=az [∀(i:Nat),i<n->bB (aP (c i)) (aP (de (aP (c i))))];let c14:Prop:=1*6<=2^24;let c10:Int:=(2:Int)^47;let c8:List (Rat×Rat):=eF n (fun i=>de (aP (c i))) d 0 1;let c6:AV:=ak 3 a.fst fun i=>rat (a.snd i) ah;let c5:Prop:=bB (gZ n c) (gZ n fun i=>de (aP (c i)));let c3:Prop:=0<1;let c15:Nat:=c29+1;let c11:Rat:=fQ c26 1;let c9:List Prop:=[c3,c3,c23,∀(i:Nat),i<n->bB (aP (c i)) (aP (de (aP (c i)))),c30,eA n (fun i=>de (aP (c i))) 1];let c7:AV:=agg [c36,c36];let c2:List (Rat×Rat):=iU (cS l) c29++c8;let c19:Nat:=c2.length;let c4:ay:=ay.mk true true 7 0 fun x=>agg (c7::c17);let c1:List (Rat×Rat):=iU (fun i=>if i<c29 then cS l i else nth [agg [rat 0 ah,rat 0 ah]] c7 (i-c29+0)) c15++c8;let c33:Int:=(↑c19:Int);let c18:Nat:=c1.length;let c13:Nat:=c19+1;let c34:Int:=(↑c13:Int);let c31:Int:=(↑c18:Int);let c12:Nat:=c18+1;let c32:Int:=(↑c12:Int);some (aj [c3,c3,c23,∀(i:Nat),i<n->bB (aP (c i)) (aP (de (aP (c i)))),c30,eA n (fun i=>de (aP (c i))) 0] (fork (decide (fQ c26 0=0)) (aj [c3,c3,c23,c14,c15*c27*2<=c28,c3] (aj [c3,c3,c3,az [c23],az [c23],c16,c5,c5,c5,c15=c15,∀(i:Nat),i<c15->(if i<c29 then cS l i else nth [agg [rat 0 ah,rat 0 ah]] c7 (i-c29+0)).keys=[]/\bB (if i<c29 then cS l i else nth [agg [rat 0 ah,rat 0 ah]] c7 (i-c29+0)) (gn (kP (if i<c29 then cS l i else nth [agg [rat 0 ah,rat 0 ah]] c7 (i-c29+0))).fst (kP (if i<c29 then cS l i else nth [agg [rat 0 ah,rat 0 ah]] c7 (i-c29+0))).snd ah),c30,c35,c22,c15+c8.length<2^30] (aj c9 (fork (decide (c11=0)) (aj [c3,c3,c23,c14,c12*c27*2<=c28,c3] (aj [c3,c20/\(0:Int)<=c32/\c32<=c10/\c32*c21<=c10] (aj [c3] (leaf normal (c6::own 98310 7 0 0::own 81926 6 0 c12::int i64 c32::c17,[(81926,ay.mk true true 6 c12 fun i=>if i<c18 then cS c1 i else nth [agg [c25,c25]] c7 (i-c18+0)),((98310:Nat),c4)]))))) (aj [c3,c20/\(0:Int)<=c31/\c31<=c10/\c31*c21<=c10] (aj [c3] (leaf normal (c6::c24::own 49158 6 0 c18::int i64 c31::c17,[(49158,ay.mk true true 6 c18 fun i=>agg [rat (cB c1 i).fst ah,rat (cB c1 i).snd ah]),((73734:Nat),c4)])))))))) (aj [c3,c3,c3,az [c23],az [c23],c16,c5,c5,c5,c29=c29,∀(i:Nat),i<c29->(cS l i).keys=[]/\bB (cS l i) (gn (aU (rat (cB l i).fst ah)) (aU (rat (cB l i).snd ah)) ah),c30,c35,c22,c29+c8.length<2^30] (aj c9 (fork (decide (c11=0)) (aj [c3,c3,c23,c14,c13*c27*2<=c28,c3] (aj [c3,c20/\(0:Int)<=c34/\c34<=c10/\c34*c21<=c10] (aj [c3] (leaf normal (c6::c24::own 57350 6 0 c13::int i64 c34::c17,[(57350,ay.mk true true 6 c13 fun i=>if i<c19 then cS c2 i else nth [agg [c25,c25]] c7 (i-c19+0)),((73734:Nat),c4)]))))) (aj [c3,c20/\(0:Int)<=c33/\c33<=c10/\c33*c21<=c10] (aj [c3] (leaf normal (c6::own 49158 7 0 0::own 24582 6 0 c19::int i64 c33::c17,[(24582,ay.mk true true 6 c19 fun i=>agg [rat (cB c2 i).fst ah,rat (cB c2 i).snd ah]),((49158:Nat),c4)]))))))))):=ag
theorem aaZ {d m i:Nat} {a:PP} {l:List (Rat×Rat)} {g:Nat->Nat}:aH T (mu d) [53] 60 tZ [part xz [1,1,1,1,0,1,0,0]] ⟨aD tZ (zK a m i),xN l g i,2⟩=
  let c8:AV:=rat 0 1;let c7:Int:=(↑m:Int);let c5:AV:=own 0 6 0 m;let c3:AV:=ak 3 a.fst fun i=>rat (a.snd i) ah;let c2:Int:=(↑i:Int);let c1:Nat×ay:=(0,ay.mk true true 6 l.length fun i=>agg [rat (cB l i).fst ah,rat (cB l i).snd ah]);let c6:Int:=c2+1;let c4:Nat:=c2.toNat+0;some (fork (decide (c2<c7)) (aj [(0:Int)<=c2/\c2.toNat<m,c4<l.length,(0:Nat)<1] (aj [(0:Nat)<1,(1:Nat)*7<=2^24,(i+1)*((120:Nat)+1)*2<=2^47] (aj [-(2:Int)^63<=c6/\c6<2^63] (leaf normal ([c3,own 36866 7 0 (i+1),c5,int i64 c7,int i64 c6],[c1,(36866,ay.mk true true 7 (i+1) fun i_1=>if i_1<i then agg [cS l i_1,int i64 (↑(g i_1):Int)]else nth [agg [agg [rat (cB l c4).fst ah,rat (cB l c4).snd ah],int i64 1]] (agg [agg [c8,c8],int i64 0]) (i_1-i+0))]))))) (leaf (exit 0) ([c3,own 1 7 0 i,c5,int i64 c7,int i64 c2],[c1,(1,ay.mk true true 7 i fun j=>agg [agg [rat (cB l j).fst ah,rat (cB l j).snd ah],int i64 (↑(g j):Int)])]))):=ag
theorem Xc {d m i:Nat} {a:PP} {l:List (Rat×Rat)} {g:Nat->Nat}:aH T (mu d) [] 60 qT (before sI [0,1]) ⟨aD tZ (zK a m i),xN l g i,2⟩=
  let c6:Nat×(Nat->Rat):=(a.fst,fun i=>aU (rat (a.snd i) ah));let c4:Prop:=dc (fun i=>rat (a.snd i) ah) a.fst ah;let c1:Nat:=bO (dx fun i=>aU (rat (a.snd i) ah)) (a.fst-1);let c3:Nat×(Nat->Rat):=(c1,fun i=>aU (rat (dx (fun i=>aU (rat (a.snd i) ah)) i) ah));let c2:PP×PP:=(c6,c3);let c5:PP:=(bZ c2 c1).fst;some (aj [c4,a.fst<2^40,cu (a.fst-1) (dx fun i=>aU (rat (a.snd i) ah)),c4,dc (fun i=>rat (dx (fun i=>aU (rat (a.snd i) ah)) i) ah) c1 ah,a.fst<2^30,c1<2^30,Trim c6,Trim c3,j9 c2] (leaf normal ([ak 3 c5.fst fun i=>rat (dh c5.fst c5.snd i) ah,own 1 7 0 i],[(1,ay.mk true true 7 i fun j=>agg [agg [rat (cB l j).fst ah,rat (cB l j).snd ah],int i64 (↑(g j):Int)])]))):=ag
theorem SJ {d m:Nat} {a:PP} {l:List (Rat×Rat)} {g:Nat->Nat}:aH T (mu d) [68] 60 qT (before xy [1,0]) ⟨aD qT (x5 a m),q9 l g m,1⟩=
  let c1:List AV×aE:=([ak 3 a.fst fun i=>rat (a.snd i) ah,own 0 7 0 m],[(0,ay.mk true true 7 m fun j=>agg [agg [rat (cB l j).fst ah,rat (cB l j).snd ah],int i64 (↑(g j):Int)])]);some (fork (decide ((↑a.fst:Int)>1)) (leaf normal c1) (leaf (exit 2) c1)):=ag
theorem Qz {d m:Nat} {a:PP} {l:List (Rat×Rat)} {g:Nat->Nat}:aH T (mu d) [] 60 vp (before ue [1,1]) ⟨aD qT (x5 a m),q9 l g m,1⟩=
  let c2:AV:=own 0 7 0 m;let c1:Nat×(Nat->Rat):=(a.fst,fun i=>aU (rat (a.snd i) ah));some (aj [dc (fun i=>rat (a.snd i) ah) a.fst ah,pM c1] (leaf normal ([ak 3 a.fst fun i=>rat (a.snd i) ah,c2,ak 1 (dm c1) fun i=>ak 3 (dz c1 i).fst fun i_1=>rat ((dz c1 i).snd i_1) ah,c2,int i64 (↑m:Int),int i64 0],[(0,ay.mk true true 7 m fun j=>agg [agg [rat (cB l j).fst ah,rat (cB l j).snd ah],int i64 (↑(g j):Int)])]))):=ag
theorem SR {d m n i:Nat} {a:PP} {c:Nat->PP} {l:List (Rat×Rat)} {g:Nat->Nat}:aH T (mu d) [78,86] 60 vp [part ue [1,1,0,0]] ⟨aD vp (Eh a n c m i),q9 l g m,1⟩=
  let c14:Int:=(↑m:Int);let c8:AV:=ak 3 a.fst fun i=>rat (a.snd i) ah;let c7:AV:=ak 1 n fun i=>ak 3 (c i).fst fun i_1=>rat ((c i).snd i_1) ah;let c6:Int:=(2:Int)^63;let c5:AV:=own 0 7 0 m;let c4:Int:=(↑i:Int);let c3:Nat×ay:=(0,ay.mk true true 7 m fun j=>agg [agg [rat (cB l j).fst ah,rat (cB l j).snd ah],int i64 (↑(g j):Int)]);let c13:Int:=c4+1;let c11:Prop:=(0:Int)<=c4/\c4.toNat<m;let c1:Nat:=c4.toNat+0;let c12:Int:=(↑(g c1):Int)+1;let c10:AV:=rat (cB l c1).fst ah;let c9:AV:=rat (cB l c1).snd ah;let c2:List AV:=[c8,c5,c7,c5,int i64 c14,int i64 c13];some (fork (decide (c4<c14)) (aj [c11,c1<m,∀(i:Nat),i<n->bB (aP (c i)) (aP (de (aP (c i)))),bB c10 (rat (aU c10) ah),bB c9 (rat (aU c9) ah),(0:Nat)<n,n<2^40,eA n (fun i=>de (aP (c i))) (aU c10),eA n (fun i=>de (aP (c i))) (aU c9)] (fork (sA n (fun i=>de (aP (c i))) (aU c10) (aU c9)) (aj [c11,c1<m,-c6<=c12/\c12<c6,c11,c1<m] (aj [-c6<=c13/\c13<c6] (leaf normal (c2,[(0,ay.mk true true 7 m fun j=>agg [agg [rat (bif j==c1 then(cB l c1).fst else(cB l j).fst) (bif j==c1 then ah else ah),rat (bif j==c1 then(cB l c1).snd else(cB l j).snd) (bif j==c1 then ah else ah)],mF (j==c1) (int i64 c12) (int i64 (↑(g j):Int))])])))) (aj [-c6<=c13/\c13<c6] (leaf normal (c2,[c3]))))) (leaf (exit 4) ([c8,c5,c7,c5,int i64 c14,int i64 c4],[c3]))):=ag
theorem OU {d m n i:Nat} {a:PP} {c:Nat->PP} {l:List (Rat×Rat)} {g:Nat->Nat}:aH T (mu d) [] 60 qT (behind ue [1,1]++[part xy [1,1]]) ⟨aD vp (Eh a n c m i),q9 l g m,1⟩=
  let c6:Nat×(Nat->Rat):=(a.fst,fun i=>aU (rat (a.snd i) ah));let c4:Prop:=dc (fun i=>rat (a.snd i) ah) a.fst ah;let c1:Nat:=bO (dx fun i=>aU (rat (a.snd i) ah)) (a.fst-1);let c3:Nat×(Nat->Rat):=(c1,fun i=>aU (rat (dx (fun i=>aU (rat (a.snd i) ah)) i) ah));let c2:PP×PP:=(c6,c3);let c5:PP:=(bZ c2 c1).fst;some (aj [c4,a.fst<2^40,cu (a.fst-1) (dx fun i=>aU (rat (a.snd i) ah)),c4,dc (fun i=>rat (dx (fun i=>aU (rat (a.snd i) ah)) i) ah) c1 ah,a.fst<2^30,c1<2^30,Trim c6,Trim c3,j9 c2] (leaf normal ([ak 3 c5.fst fun i=>rat (dh c5.fst c5.snd i) ah,own 0 7 0 m],[(0,ay.mk true true 7 m fun j=>agg [agg [rat (cB l j).fst ah,rat (cB l j).snd ah],int i64 (↑(g j):Int)])]))):=ag
theorem UQ {d m:Nat} {a:PP} {l:List (Rat×Rat)} {g:Nat->Nat}:cN T (mu d) [] 60 f18 [part sI [1]] ⟨aD qT (x5 a m),q9 l g m,1⟩=
  some (leaf ret [ak 7 m fun i=>agg [agg [rat (cB l (i+0)).fst ah,rat (cB l (i+0)).snd ah],int i64 (↑(g (i+0)):Int)],int i64 0]):=ag
theorem Ak {d:Nat}:bK P (mu d):=gW (aK K6 (aK Lz (aK HU (aK (HI d) (aK K2 (aK D3 (aK Ca (aK Ts gJ))))))))
theorem adO {a:PP} (ta:Trim a) (h:1<a.1):(cG a (cP a)).1<a.1:=by
 have h1:(cP a).1=a.1-1:=vc (.inr (by
  unfold dx
  rw[show a.1-1-1+1=a.1-1 by omega]
  intro h0
  rcases Rat.mul_eq_zero.1 h0 with h0|h0
  ·have h0:((a.1-1:Nat):Int)=0:=Rat.intCast_inj.1 h0
   omega
  ·rcases ta with h2|h2
   ·omega
   ·exact h2 h0))
 have h2:=(Fo ta (gl (a:=a))).2.len aa gl (nH ta gl)
 omega
theorem sH {a:PP} (ta:Trim a):∀j,Trim (fq a j)
 |0=>nH ta gl
 |j+1=>nH (sH ta j) gl
theorem xG {a:PP} (ta:Trim a):(cG a (cP a)).1<=a.1:=v9 (s:=(a,cP a)) aQ (Nat.le_trans eP (Nat.sub_le _ _)) ta gl _
theorem DV {a:PP} (ta:Trim a):∀j,(fq a j).1<=a.1
 |0=>xG ta
 |j+1=>Nat.le_trans (xG (sH ta j)) (DV ta j)
theorem K3 {a:PP} (ta:Trim a):∀f j,(fq a j).1<=f->(fq a (ot a f j)).1<=1/\(∀i,j<=i->i<ot a f j->1<(fq a i).1)/\j<=ot a f j
 |0,j,h=>⟨by show(fq a j).1<=1;omega,fun i h1 h2=>by have:i<j:=h2;omega,aQ⟩
 |f+1,j,h=>by
  unfold ot
  split
  ·rename_i h1
   have:=adO (sH ta j) h1
   obtain⟨g1,g2,g3⟩:=K3 ta f (j+1) (by show(cG _ _).1<=f;omega)
   refine⟨g1,fun i h2 h3=>?_,aa⟩
   rcases Nat.eq_or_lt_of_le h2 with h4|h4
   ·rw[<-h4];exact h1
   ·exact g2 i h4 h3
  ·exact⟨aa,fun i h1 h2=>aa,aQ⟩
theorem Gd {a:PP}:∀f j,ot a f j<=j+f
 |0,j=>aQ
 |f+1,j=>by
  unfold ot
  split
  ·have:=Gd (a:=a) f (j+1);omega
  ·omega
theorem Nb {a:PP} {l:List (Rat×Rat)} {i:Nat}:∀j,j0 a l j i<=j+1
 |0=>aQ
 |j+1=>by
  have:=Nb (a:=a) (l:=l) (i:=i) j
  unfold j0;split<;>omega
theorem Wf {k es:Nat} (h:0<es):bB .nil (.own k es 0 0):=by
 refine⟨rfl,fun M w cs hc=>?_⟩
 cases hc with
 |vnil h1=>cases h1;exact .own0 h .nil
def gP (a:PP) (l:List (Rat×Rat)) (k i x:Nat):Nat:=if x<i then j0 a l (k+1) x else j0 a l k x
abbrev sx (a:PP) (l:List (Rat×Rat)) (k i:Nat):Bool:=sA (dm (fq a k)) (dz (fq a k)) (cB l i).1 (cB l i).2
theorem FL {a:PP} {l:List (Rat×Rat)} {k i:Nat}:j0 a l (k+1) i=if sx a l k i=true then j0 a l k i+1 else j0 a l k i:=rfl
theorem CU {a:PP} {l:List (Rat×Rat)} {k i:Nat}:gP a l k i i=j0 a l k i:=if_neg aa
theorem KU {a:PP} {l:List (Rat×Rat)} {k i x:Nat} (h:x≠i):gP a l k (i+1) x=gP a l k i x:=by
 unfold gP
 by_cases h1:x<i
 ·rw[if_pos h1,if_pos aa]
 ·rw[if_neg h1,if_neg aa]
theorem abo {a:PP} {l:List (Rat×Rat)} {k i:Nat} (h:sx a l k i=true):gP a l k (i+1) i=gP a l k i i+1:=by
 rw[CU];unfold gP
 rw[if_pos aa,FL,if_pos h]
theorem aak {a:PP} {l:List (Rat×Rat)} {k i:Nat} (h:sx a l k i=false):gP a l k (i+1)=gP a l k i:=by
 funext x
 by_cases hx:x=i
 ·subst hx
  rw[CU];unfold gP
  rw[if_pos aa,FL,if_neg (by rw[h];decide)]
 ·exact KU hx
theorem Jf {a:PP} {l:List (Rat×Rat)} {k i c j:Nat} (hc:c=i) (h:sx a l k i=true):
  AV.agg [.agg [.rat (bif j==c then(cB l c).1 else(cB l j).1) (bif j==c then ah else ah),.rat (bif j==c then(cB l c).2 else(cB l j).2) (bif j==c then ah else ah)],mF (j==c) (.int .i64 ((gP a l k i c:Nat)+1)) (.int .i64 (gP a l k i j:Nat))]=vR l (gP a l k (i+1)) j:=by
 subst hc
 by_cases hj:j=c
 ·subst hj
  rw[beq_self_eq_true]
  show AV.agg [cS l j,.int .i64 ((gP a l k j j:Nat)+1)]=AV.agg [cS l j,.int .i64 (gP a l k (j+1) j:Nat)]
  rw[abo h];rfl
 ·rw[show(j==c)=false by simp[hj]]
  show AV.agg [cS l j,.int .i64 (gP a l k c j:Nat)]=AV.agg [cS l j,.int .i64 (gP a l k (c+1) j:Nat)]
  rw[KU hj]
theorem Z7 {l:List (Rat×Rat)} {p:Rat×Rat} {z:AV} {i:Nat} (hi:i<l.length+1):keys (if i<l.length then cS l i else nth [gn p.1 p.2 ah] z (i-l.length+0))=[]/\
  bB (if i<l.length then cS l i else nth [gn p.1 p.2 ah] z (i-l.length+0)) (gn (kP (if i<l.length then cS l i else nth [gn p.1 p.2 ah] z (i-l.length+0))).1 (kP (if i<l.length then cS l i else nth [gn p.1 p.2 ah] z (i-l.length+0))).2 ah):=by
 rw[sj hi];exact⟨rfl,.refl _⟩
theorem xL {a:PP} {l:List (Rat×Rat)} {g:Nat->Nat} {k0 k1 M:Nat} {row:ay} {z:Nat->AV} (hM:l.length=M) (hrow:row=⟨true,true,6,M,row.f⟩) (hf:∀i,i<l.length->row.f i=cS l i) (hne:k0≠k1):
  eW [] ([aP a,.own k1 7 0 0,.own k0 6 0 M,.int .i64 M,.int .i64 0],[(k0,row),(k1,⟨true,true,7,0,z⟩)]) (zK a l.length 0) (xN l g 0) 2:=by
 subst hM
 have e1:look k1 [(k0,row),(k1,(⟨true,true,7,0,z⟩:ay))]=some ⟨true,true,7,0,z⟩:=by simp[look,hne]
 have e0:look k0 [(k0,row),(k1,(⟨true,true,7,0,z⟩:ay))]=some ⟨true,true,6,l.length,row.f⟩:=by rw[<-hrow];simp[look]
 exact⟨[(0,k0),(1,k1)],by simp[iz,hne,Ne.symm hne],rfl,rfl,bw rfl e0 rfl (fun i hi=>bP (by rw[hf i hi];rfl) (hf i hi)) (bw rfl e1 rfl (fun i hi=>absurd hi (Nat.not_lt_zero _)) trivial)⟩
theorem Z1 {d:Nat} {p:PP} (hz:yG d p) (K:Nat):aO P 18 K [aP p] [] (aJ (Ch d p) []):=by
 have hW:=dg
 obtain⟨z1,z2⟩:=hz
 refine ij (r:=aJ (Ch d p) []) hT K7 rfl aW rfl (fun _ cx h0=>?_) K []
 have hk:=mO h0
 refine au.Gc hT Ak hm (x:=BM) [1,1,1,1,1,1,1,1,1] ag ag K7.dst hk (f1:=[20]) 60 Et 6 (fun _:Unit=>LC (aC p)) (fun _=>I3 (dm (aC p)) (dz (aC p)) []) (fun _=>(aC p).1≠0) ⟨_,WH (d:=d),?_⟩ (fun _ hne=>?_)
 ·simp only[af.all,az,beq_iff_eq,beq_eq_false_iff_ne,ne_eq]
  refine⟨⟨cZ aQ,z1⟩,fun h s' hv=>?_,fun h=>?_⟩
  ·have h:(aC p).1=0:=aa
   have e1:jh d p=[]:=if_pos h
   refine tB.fin ⟨[.nil,.int .i64 3],rfl,?_⟩ hv
   show gh [.nil,.int .i64 3] [.ak 7 (jh d p).length (vR (jh d p) (pU d p)),.int .i64 (if(aC p).1=0 then 3 else 0)]
   rw[e1,if_pos h]
   exact⟨lQ aa,.refl _,trivial⟩
  ·have h:(aC p).1≠0:=aa
   obtain⟨y1,y2,y3,y4,y5,y6,y7,y8⟩:=z2 h
   refine⟨⟨cZ aQ,y1,aa⟩,aa,aa,⟨aa,aa,aa,aa,aa,aa⟩,(),h,[(0,49152),(1,65536),(3,57344),(4,86016),(5,90112)],rfl,rfl,rfl,?_⟩
   refine lF rfl rfl (.inr ⟨rfl,Wf aa⟩) (lF rfl rfl (.inl (.inr (CQ ⟨⟨rfl,iI rfl (.refl _)⟩,⟨rfl,gF rfl⟩,⟨rfl,gF rfl⟩,⟨rfl,iI rfl (.refl _)⟩,trivial⟩ rfl))) (rG rfl aa aa (dU (lF rfl rfl (.inr ⟨rfl,cY rfl (by rw[hW];decide)⟩) (lF rfl rfl (.inr ⟨rfl,cY rfl (by rw[hW];decide)⟩) trivial)))))
 ·obtain⟨y1,y2,y3,y4,y5,y6,y7,y8⟩:=z2 hne
  have hsm:0<dm (aC p):=Nat.succ_pos _
  have hl:jh d p=Kq d (dm (aC p)) (dz (aC p)):=if_neg hne
  obtain⟨l,hll⟩:∃l,l=jh d p:=⟨_,rfl⟩
  rw[<-hll]at y6 y8
  have hl2:l=(if fQ (dz (aC p) 0) 0=0 then [(0,0)]else [])++eF (dm (aC p)) (dz (aC p)) d 0 1++(if fQ (dz (aC p) 0) 1=0 then [(1,1)]else []):=by rw[hll,hl];rfl
  refine au.oN hT Ak hm (x:=xz) [1,1,1,1,0,1] (i:=0) (y:=part xz [1,1,1,1,0,1,0,0]) (z:=sI) ag ag ag ag hk (f1:=[29,41]) (f2:=[53]) 60 tZ 2 (fun i:Nat=>zK (aC p) l.length i) (fun i=>xN l (fun _=>1) i) (fun i=>i<=l.length) (fun i=>i=l.length) (fun i=>l.length-i) (fun _=>False)
   ⟨_,UF (d:=d),?_⟩ (fun i hi=>⟨_,aaZ (d:=d),?_⟩) (fun i hi=>?_) fun _ _ h=>h.elim
  ·have hC:(fun i=>de (aP (dz (aC p) i)))=dz (aC p):=rfl
   have hC0:de (aP (dz (aC p) 0))=dz (aC p) 0:=rfl
   have h00:([]:List (Rat×Rat)).length=0:=rfl
   have e0:iU (fun i=>if i<([]:List (Rat×Rat)).length then cS [] i else nth [.agg [.rat 0 ah,.rat 0 ah]] (.agg [.rat 0 1,.rat 0 1]) (i-([]:List (Rat×Rat)).length+0)) (([]:List (Rat×Rat)).length+1)=[(0,0)]:=MM (l:=[]) (p:=(0,0))
   simp only[af.all,az,hC,hC0,Gf,e0,bz,bE]
   have hm:(eF (dm (aC p)) (dz (aC p)) d 0 1).length<=l.length:=by rw[hl2];simp only[List.length_append];omega
   refine⟨⟨aa,aa,aQ,fun i _=>.refl _,hsm,y3⟩,fun r0=>⟨⟨aa,aa,aQ,aa,aa,aa⟩,⟨aa,aa,aa,aQ,aQ,fun i _=>.refl _,.refl _,.refl _,.refl _,trivial,?_,hsm,y2,y5,?_⟩,⟨aa,aa,aQ,fun i _=>.refl _,hsm,y4⟩,?_⟩,fun r0=>⟨⟨aa,aa,aa,aQ,aQ,fun i _=>.refl _,.refl _,.refl _,.refl _,trivial,fun i hi=>absurd hi (Nat.not_lt_zero _),hsm,y2,y5,?_⟩,⟨aa,aa,aQ,fun i _=>.refl _,hsm,y4⟩,?_⟩⟩
   ·exact fun i hi=>Z7 (l:=[]) (p:=(0,0)) hi
   ·show 0+1+(eF (dm (aC p)) (dz (aC p)) d 0 1).length<2^30
    rw[hl2,if_pos r0]at y6;simp only[List.length_append,List.length_cons,List.length_nil]at y6;omega
   ·refine⟨fun r1=>?_,fun r1=>?_⟩
    ·rw[if_pos r0,if_pos r1]at hl2
     have hle:l.length=([(0,0)]++eF (dm (aC p)) (dz (aC p)) d 0 1).length+1:=by rw[hl2,List.length_append];rfl
     refine⟨⟨aa,aa,aQ,aa,aa,aa⟩,⟨aa,aa,aa,aa,aa⟩,aa,0,Nat.zero_le _,xL hle rfl (fun i hi=>?_) (by decide)⟩
     rw[hle]at hi;rw[hl2];exact sj (p:=(1,1)) hi
    ·rw[if_pos r0,if_neg r1,List.append_nil]at hl2
     have hl3:([(0,0)]++eF (dm (aC p)) (dz (aC p)) d 0 1).length=l.length:=by rw[<-hl2]
     refine⟨⟨aa,aa,aa,aa,aa⟩,aa,0,Nat.zero_le _,xL hl3.symm rfl (fun i hi=>by rw[hl2]) (by decide)⟩
   ·show 0+(eF (dm (aC p)) (dz (aC p)) d 0 1).length<2^30
    omega
   ·refine⟨fun r1=>?_,fun r1=>?_⟩
    ·rw[if_neg r0,if_pos r1]at hl2
     have hle:l.length=([]++eF (dm (aC p)) (dz (aC p)) d 0 1).length+1:=by rw[hl2,List.length_append];rfl
     refine⟨⟨aa,aa,aQ,aa,aa,aa⟩,⟨aa,aa,aa,aa,aa⟩,aa,0,Nat.zero_le _,xL hle rfl (fun i hi=>?_) (by decide)⟩
     rw[hle]at hi;rw[hl2];exact sj (p:=(1,1)) hi
    ·rw[if_neg r0,if_neg r1,List.append_nil]at hl2
     have hl3:([]++eF (dm (aC p)) (dz (aC p)) d 0 1).length=l.length:=by rw[<-hl2]
     refine⟨⟨aa,aa,aa,aa,aa⟩,aa,0,Nat.zero_le _,xL hl3.symm rfl (fun i hi=>by rw[hl2]) (by decide)⟩
  ·have hiA:((i:Int)).toNat+0=i:=aa
   simp only[af.all,az,bz,bE]
   refine⟨fun h=>⟨⟨aa,aa,aa⟩,⟨aa,aa,aa⟩,aa,i+1,aa,by dsimp only;omega,[(0,0),(1,36866)],rfl,by rw[show(i:Int)+1=((i+1:Nat):Int) by omega];rfl,rfl,mz (bw rfl rfl rfl (fun x hx=>?_) trivial)⟩,
    fun h=>⟨rfl,i,aa,[(0,0),(1,1)],rfl,rfl,rfl,mz (bw rfl rfl rfl (fun x hx=>bP rfl rfl) trivial)⟩⟩
   rw[hiA]
   by_cases hx2:x<i
   ·rw[if_pos hx2];exact bP rfl rfl
   ·rw[if_neg hx2,L7 aa,show x=i by omega];exact bP rfl rfl
  ·subst hi
   have ta:Trim (aC p):=lJ
   obtain⟨J,hJ⟩:∃J,J=ot (aC p) (aC p).1 0:=⟨_,rfl⟩
   have hl0:(fq (aC p) 0).1<=(aC p).1:=DV ta 0
   obtain⟨j1,j2,_⟩:=K3 ta (aC p).1 0 hl0
   rw[<-hJ]at j1 j2
   have hp41:(aC p).1<=41:=Nat.le_trans eP z1.2.1
   have hd:∀{x:PP},x.1<=41->(cP x).1<2^30:=fun h=>Nat.lt_of_le_of_lt eP aa
   refine au.qJ hT Ak hm (x:=sI) [0,1] (i:=2) (y:=xy) (z:=part sI [1]) ag ag ag ag [1,0] (j:=3) (x1:=ue) (zb:=part xy [1,1]) ag ag ag [1,1] (i2:=4) (y2:=part ue [1,1,0,0]) ag ag rfl hk
    (f1:=[]) (f2:=[68]) (f3:=[]) (f4:=[78,86]) (f5:=[]) 60 qT vp 1 1 (fun k:Nat=>x5 (fq (aC p) k) l.length) (fun k=>q9 l (j0 (aC p) l k) l.length) (fun k=>k<=J) (fun k=>k=J) (fun k=>J-k) (fun k=>k<J) (fun _=>False) (fun _=>False)
    (fun k (i:Nat)=>Eh (fq (aC p) k) (dm (fq (aC p) k)) (dz (fq (aC p) k)) l.length i) (fun k i=>q9 l (gP (aC p) l k i) l.length) (fun _ i=>i<=l.length) (fun _ i=>i=l.length) (fun _ i=>l.length-i)
    ⟨_,Xc (d:=d),?_⟩ (fun k hk=>⟨_,SJ (d:=d),?_⟩) (fun k hk hG=>⟨_,Qz (d:=d),?_⟩) (fun k hk hG i hi=>⟨_,SR (d:=d),?_⟩) (fun k hk hG i hi=>⟨_,OU (d:=d),?_⟩) (fun k hk=>?_) (fun _ _ h=>h.elim) (fun _ _ h=>h.elim)
   ·simp only[af.all,az]
    refine⟨⟨cZ aQ,by show(aC p).1<_;omega,y7.1,cZ aQ,cZ aQ,by show(aC p).1<_;omega,hd hp41,ta,gl,y7.2⟩,0,Nat.zero_le _,[(0,1)],rfl,rfl,rfl,mz trivial⟩
   ·simp only[af.all,az,bz,bE]
    refine⟨fun h=>⟨?_,[(0,0)],rfl,rfl,rfl,mz trivial⟩,fun h=>⟨rfl,k,?_,[(0,0)],rfl,rfl,rfl,mz trivial⟩⟩
    ·rcases Nat.lt_or_ge k J with h2|h2
     ·exact h2
     ·have:k=J:=aa
      subst this;omega
    ·rcases Nat.lt_or_ge k J with h2|h2
     ·have:=j2 k (Nat.zero_le _) h2
      omega
     ·omega
   ·obtain⟨x1,x2,x3,x4⟩:=y8 k (j2 k (Nat.zero_le _) hG)
    simp only[af.all,az]
    exact⟨⟨cZ aQ,x2⟩,0,Nat.zero_le _,[(0,0)],rfl,rfl,rfl,mz trivial⟩
   ·obtain⟨x1,x2,x3,x4⟩:=y8 k (j2 k (Nat.zero_le _) hG)
    have hJ2:J<=(aC p).1:=by rw[hJ];have:=Gd (a:=aC p) (aC p).1 0;omega
    have hsk:0<dm (fq (aC p) k):=Nat.succ_pos _
    have hb:gP (aC p) l k i i<=42:=by rw[CU];have:=Nb (a:=aC p) (l:=l) (i:=i) k;omega
    simp only[af.all,az,bz,bE,bu,Nat.add_zero]
    refine⟨fun h=>⟨⟨aa,aa,fun i _=>.refl _,.refl _,.refl _,hsk,x3,(x4 i aa).1,(x4 i aa).2⟩,fun h2=>⟨⟨aa,aa,aa,aa,aa⟩,aa,i+1,aa,by dsimp only;omega,[(0,0)],rfl,by rw[show(i:Int)+1=((i+1:Nat):Int) by omega];rfl,rfl,bw rfl rfl rfl (fun x hx=>?_) trivial⟩,
      fun h2=>⟨aa,i+1,aa,by dsimp only;omega,[(0,0)],rfl,by rw[show(i:Int)+1=((i+1:Nat):Int) by omega];rfl,rfl,bw rfl rfl rfl (fun x hx=>?_) trivial⟩⟩,
     fun h=>⟨rfl,i,aa,[(0,0)],rfl,rfl,rfl,mz trivial⟩⟩
    ·have h2:sx (aC p) l k i=true:=h2
     exact bP (by rw[Jf rfl h2];rfl) (Jf rfl h2)
    ·have h2:sx (aC p) l k i=false:=h2
     exact bP rfl (by show vR l (gP (aC p) l k i) x=_;rw[aak h2])
   ·obtain⟨x1,x2,x3,x4⟩:=y8 k (j2 k (Nat.zero_le _) hG)
    have hg41:(fq (aC p) k).1<=41:=Nat.le_trans (DV ta k) hp41
    simp only[af.all,az]
    refine⟨⟨cZ aQ,by show(fq (aC p) k).1<_;omega,x1.1,cZ aQ,cZ aQ,by show(fq (aC p) k).1<_;omega,hd hg41,sH ta k,gl,x1.2⟩,k+1,hG,by dsimp only;omega,[(0,0)],rfl,rfl,rfl,bw rfl rfl rfl (fun x hx=>bP rfl ?_) trivial⟩
    show AV.agg [cS l x,.int .i64 (gP (aC p) l k i x:Nat)]=.agg [cS l x,.int .i64 (j0 (aC p) l (k+1) x:Nat)]
    unfold gP
    rw[if_pos (show x<i by omega)]
   ·subst hk
    refine au.lU ((aF.fin hT Ak hm 60 (UQ (d:=d)) ag ?_).mono fun _ _ h=>.inl h)
    show gh [.ak 7 l.length _,.int .i64 0] [.ak 7 (jh d p).length (vR (jh d p) (pU d p)),.int .i64 (if(aC p).1=0 then 3 else 0)]
    refine⟨r8 (by rw[hll]) fun i hi=>?_,bQ (if_neg hne).symm,trivial⟩
    have ht:pU d p i=j0 (aC p) l k i:=by unfold pU;rw[<-hll,<-hJ]
    show _=AV.agg [cS (jh d p) i,.int .i64 (pU d p i:Nat)]
    rw[ht,<-hll];rfl
def Gm (d:Nat):Spec:=dL (kC (kL ah) kN) (fun a=>Ch d a.1) fun a=>[yG d a.1]
theorem aei (d:Nat):bf P (Gm d) 18:=dF fun⟨a,_⟩ K hn=>Z1 hn K
def eL (k:Nat->Rat) (j:Nat):Nat->Int
 |0=>-1
 |l+1=>if k (j+l)=k (j+l+1)then eL k j l else(j+l:Nat)
theorem HX {k:Nat->Rat} {j:Nat}:∀{l:Nat},k j≠k (j+l)->∃P:Nat,eL k j l=(P:Int)/\j<=P/\P<j+l/\k P≠k (P+1)
 |0,h=>absurd rfl h
 |l+1,h=>by
  unfold eL
  by_cases he:k (j+l)=k (j+l+1)
  ·rw[if_pos he]
   obtain⟨P,h1,h2,h3,h4⟩:=HX (k:=k) (j:=j) (l:=l) (by rw[he];exact h)
   exact⟨P,h1,h2,by omega,h4⟩
  ·rw[if_neg he]
   exact⟨j+l,rfl,by omega,by omega,he⟩
theorem Kn.piece {n p:Nat} {k:Nat->Rat} (h:Kn n p k) {j:Nat} (hj:j+p+1<n):∃P:Nat,eL k j (p+1)=(P:Int)/\j<=P/\P<=j+p/\k P<k (P+1)/\p<=P/\P+p+1<n:=by
 have hp:=h.p1
 have hne:k j≠k (j+(p+1)):=by
  have hlt:k j<k (j+(p+1)):=by
   by_cases h0:j=0
   ·subst h0
    have hl:=h.len
    have a1:=h.mult 1 (by omega) (by omega)
    rw[h.first 1 (by omega),show 1+p=0+(p+1) by omega]at a1
    exact a1
   ·have a1:=h.mult j (by omega) (by omega)
    have a2:=h.mono (show j+p<=j+(p+1) by omega) (by omega)
    grind
  grind
 obtain⟨P,h1,h2,h3,h4⟩:=HX hne
 have hs:=h.sorted P (by omega)
 refine⟨P,h1,h2,by omega,by grind,?_,?_⟩
 ·rcases Nat.lt_or_ge P p with hh|hh
  ·exact absurd (by rw[h.first P (by omega),h.first (P+1) (by omega)]) h4
  ·exact hh
 ·rcases Nat.lt_or_ge (P+p+1) n with hh|hh
  ·exact hh
  ·exact absurd (by rw[h.last P (by omega) (by omega),h.last (P+1) (by omega) (by omega)]) h4
open Go
theorem HV {x:Int} {n:Nat} (h:x.natAbs<2^n) (hn:1<=n):Sz (x:Rat) n:=
 ⟨by rw[Rat.num_intCast];exact h,by rw[Rat.den_intCast];exact Nat.lt_of_lt_of_le (show 1<2^1 by decide) (Nat.pow_le_pow_right (by decide) hn)⟩
end Go.Am.B
namespace Go.Am
open Go
def bX (D:Int) (s:Nat) (x:Rat):Prop:=∃z:Int,(z:Rat)=x*(D:Rat)/\z.natAbs<=2^s
theorem wH {D:Int} (h:D≠0):(D:Rat)≠0:=fun h0=>by
 have h0:(D:Rat)=((0:Int):Rat):=h0
 exact h (Rat.intCast_inj.1 h0)
theorem bX.more {D:Int} {s t:Nat} {x:Rat} (h:bX D s x) (ht:s<=t):bX D t x:=h.imp fun z hz=>⟨hz.1,Nat.le_trans hz.2 (Nat.pow_le_pow_right (by decide) ht)⟩
theorem bX.sz {D:Int} {s e:Nat} {x:Rat} (hD:D≠0) (hd:D.natAbs<=2^e) (h:bX D s x):Sz x (s+e+2):=by
 obtain⟨z,hz,b⟩:=h
 have hx:x=(z:Rat)/(D:Rat):=by rw[hz,Rat.div_def,Rat.mul_assoc,Rat.mul_inv_cancel _ (wH hD),Rat.mul_one]
 rw[hx]
 have s1:Sz (z:Rat) (s+1):=B.HV (Nat.lt_of_le_of_lt b (Nat.pow_lt_pow_right (by decide) aa)) aa
 have s2:Sz (D:Rat) (e+1):=B.HV (Nat.lt_of_le_of_lt hd (Nat.pow_lt_pow_right (by decide) aa)) aa
 exact(s1.div s2).more aa
theorem bX.zero {D:Int} {s:Nat}:bX D s 0:=⟨0,by rw[Rat.zero_mul];rfl,Nat.zero_le _⟩
theorem bX.int {z:Int} {s:Nat} (h:z.natAbs<=2^s):bX 1 s (z:Rat):=⟨z,by rw[show((1:Int):Rat)=1 from rfl,Rat.mul_one],h⟩
theorem bX.mul {D E:Int} {s t:Nat} {x y:Rat} (h:bX D s x) (h':bX E t y):bX (D*E) (s+t) (x*y):=by
 obtain⟨z,hz,b⟩:=h
 obtain⟨w,hw,c⟩:=h'
 refine⟨z*w,by rw[Rat.intCast_mul,hz,hw,Rat.intCast_mul];grind,?_⟩
 rw[Int.natAbs_mul,Nat.pow_add];exact Nat.mul_le_mul b c
theorem bX.add {D:Int} {s:Nat} {x y:Rat} (h:bX D s x) (h':bX D s y):bX D (s+1) (x+y):=by
 obtain⟨z,hz,b⟩:=h
 obtain⟨w,hw,c⟩:=h'
 refine⟨z+w,by rw[Rat.intCast_add,hz,hw];grind,?_⟩
 have:=Int.natAbs_add_le z w
 rw[Nat.pow_succ];omega
theorem bX.up {D E:Int} {s e:Nat} {x:Rat} (h:bX D s x) (hE:E.natAbs<=2^e):bX (D*E) (s+e) x:=by
 obtain⟨z,hz,b⟩:=h
 refine⟨z*E,by rw[Rat.intCast_mul,hz,Rat.intCast_mul];grind,?_⟩
 rw[Int.natAbs_mul,Nat.pow_add];exact Nat.mul_le_mul b hE
theorem bX.tV {D:Int} {s e:Nat} {x:Rat} (h:bX D s x) {n:Int} (hn:n.natAbs<=2^e):bX D (e+s) ((n:Rat)*x):=by
 obtain⟨z,hz,b⟩:=h
 refine⟨n*z,by rw[Rat.intCast_mul,hz];grind,?_⟩
 rw[Int.natAbs_mul,Nat.pow_add];exact Nat.mul_le_mul hn b
theorem zk {w:Int} {t:Nat} (h:w.natAbs<=2^t) (j:Nat):(w^j).natAbs<=2^(j*t):=by
 rw[Int.natAbs_pow,Nat.mul_comm,Nat.pow_mul];exact Nat.pow_le_pow_left h j
theorem kM {v w:Int} {s t:Nat} (h:v.natAbs<=2^s) (h':w.natAbs<=2^t):(v*w).natAbs<=2^(s+t):=by
 rw[Int.natAbs_mul,Nat.pow_add];exact Nat.mul_le_mul h h'
def cq (n:Nat) (k:Nat->Rat) (s:Nat):Prop:=∃D:Int,D≠0/\D.natAbs<=2^s/\∀i,i<n->bX D s (k i)
def Bd (a:PP) (s:Nat):Prop:=cq a.1 a.2 s
theorem cq.sz {n s:Nat} {k:Nat->Rat} (h:cq n k s) {i:Nat} (hi:i<n):Sz (k i) (2*s+2):=by
 obtain⟨D,h1,h2,h3⟩:=h
 exact((h3 i hi).sz h1 h2).more aa
theorem cq.more {n s t:Nat} {k:Nat->Rat} (h:cq n k s) (ht:s<=t):cq n k t:=by
 obtain⟨D,h1,h2,h3⟩:=h
 exact⟨D,h1,Nat.le_trans h2 (Nat.pow_le_pow_right (by decide) ht),fun i hi=>(h3 i hi).more ht⟩
theorem cq.short {n m s:Nat} {k:Nat->Rat} (h:cq n k s) (hm:m<=n):cq m k s:=by
 obtain⟨D,h1,h2,h3⟩:=h
 exact⟨D,h1,h2,fun i hi=>h3 i aa⟩
theorem cq.congr {n s:Nat} {k l:Nat->Rat} (h:cq n k s) (e:∀i,i<n->k i=l i):cq n l s:=by
 obtain⟨D,h1,h2,h3⟩:=h
 exact⟨D,h1,h2,fun i hi=>by rw[<-e i hi];exact h3 i hi⟩
theorem Bd.CL {a b:PP} {s:Nat} (h:Bd a s) (e:jg a b):Bd b s:=by
 show cq b.1 b.2 s
 rw[<-e.1];exact cq.congr h e.2
theorem WZ {n e s t:Nat} {d a:Nat->Rat} (ha:cq n a s) (hd:cq (e+1) d t) (h0:d e≠0):
  ∃D w:Int,D≠0/\w≠0/\D.natAbs<=2^s/\w.natAbs<=2^t/\(∀j,j<=n-e->∀i,i<n->bX (D*w^j) (s+j*(t+1)) (cr e d a (n-e) j i))/\∀k,k<n-e->bX (D*w^(n-e)) (s+(n-e)*(t+1)) (fc e d a (n-e) k):=by
 obtain⟨D,d1,d2,d3⟩:=ha
 obtain⟨E,e1,e2,e3⟩:=hd
 obtain⟨w,w1,w2⟩:=e3 e aa
 have hw:w≠0:=fun h=>by
  rw[h]at w1
  have w1:(0:Rat)=d e*(E:Rat):=w1
  exact(Rat.mul_eq_zero.1 w1.symm).elim h0 (wH e1)
 have key:∀j,j<=n-e->∀i,i<n->bX (D*w^j) (s+j*(t+1)) (cr e d a (n-e) j i):=by
  intro j
  induction j with
  |zero=>exact fun _ i hi=>by rw[Int.pow_zero,Int.mul_one,Nat.zero_mul];exact d3 i hi
  |succ j ih=>
   intro hj i hi
   have ih:=ih aa
   show bX _ _ (gr e d (n-e-1-j) (cr e d a (n-e) j) i)
   have hs:s+(j+1)*(t+1)=s+j*(t+1)+t+1:=by rw[Nat.add_mul];omega
   have hD:D*w^(j+1)=D*w^j*w:=by rw[Int.pow_succ,Int.mul_assoc]
   rw[hs,hD]
   unfold gr
   by_cases h:n-e-1-j<=i/\i<n-e-1-j+e+1
   ·rw[if_pos h]
    obtain⟨z,z1,z2⟩:=ih i hi
    obtain⟨y,y1,y2⟩:=ih (n-e-1-j+e) aa
    obtain⟨m,m1,m2⟩:=e3 (i-(n-e-1-j)) aa
    refine⟨z*w-y*m,?_,?_⟩
    ·rw[Rat.intCast_sub,Rat.intCast_mul,Rat.intCast_mul,Rat.intCast_mul,z1,m1]
     generalize ((D*w^j:Int):Rat)=Q at*
     rw[y1,w1,Rat.div_def]
     have:d e*(d e)⁻¹=1:=Rat.mul_inv_cancel _ h0
     generalize (d e)⁻¹=v at*
     generalize d (i-(n-e-1-j))=u
     generalize cr e d a (n-e) j i=x
     generalize cr e d a (n-e) j (n-e-1-j+e)=r
     generalize d e=g at*
     have h3:r*v*u*(Q*(g*(E:Rat)))=r*u*Q*(E:Rat)*(g*v):=by grind
     rw[Rat.sub_eq_add_neg,Rat.sub_eq_add_neg,Rat.add_mul,Rat.neg_mul,h3,this];grind
    ·have b1:=kM z2 w2
     have b2:=kM y2 m2
     have:=Int.natAbs_sub_le (z*w) (y*m)
     rw[Nat.pow_succ];omega
   ·rw[if_neg h]
    exact((ih i hi).up w2).more aa
 refine⟨D,w,d1,hw,d2,w2,key,fun k hk=>?_⟩
 -- the quotient
 obtain⟨z,z1,z2⟩:=key (n-e-1-k) aa (k+e) aa
 have h1:bX (D*w^(n-e-1-k)*w) (s+(n-e-1-k)*(t+1)+t) (fc e d a (n-e) k):=by
  refine⟨z*E,?_,kM z2 e2⟩
  unfold fc
  rw[Rat.intCast_mul,Rat.intCast_mul (D*w^(n-e-1-k)),z1,w1,Rat.div_def]
  have:d e*(d e)⁻¹=1:=Rat.mul_inv_cancel _ h0
  generalize (d e)⁻¹=v at*
  generalize cr e d a (n-e) (n-e-1-k) (k+e)=r
  generalize d e=g at*
  generalize ((D*w^(n-e-1-k):Int):Rat)=Q
  have h3:r*v*(Q*(g*(E:Rat)))=r*Q*(E:Rat)*(g*v):=by grind
  rw[h3,this,Rat.mul_one]
 have h2:=h1.up (zk w2 k)
 rw[show D*w^(n-e-1-k)*w*w^k=D*w^(n-e) by rw[Int.mul_assoc,Int.mul_assoc,<-Int.pow_succ',<-Int.pow_add,show n-e-1-k+(k+1)=n-e by omega]]at h2
 refine h2.more ?_
 have:(n-e)*(t+1)=(n-e-1-k)*(t+1)+(k+1)*(t+1):=by rw[<-Nat.add_mul,show n-e-1-k+(k+1)=n-e by omega]
 rw[this,Nat.add_mul k 1,Nat.mul_add k t 1];omega
theorem Bd.rem {a d:PP} {s t:Nat} (ha:Bd a s) (hd:Bd d t) (h0:0<d.1) (td:Trim d):Bd (dP a d) (s+(a.1-(d.1-1))*(t+1))/\Bd (gD a d) (s+(a.1-(d.1-1))*(t+1))/\(∀j,j<=a.1-(d.1-1)->∀i,i<a.1->Sz (cr (d.1-1) d.2 a.2 (a.1-(d.1-1)) j i) (2*(s+(a.1-(d.1-1))*(t+1))+2))/\∀k,k<a.1-(d.1-1)->Sz (fc (d.1-1) d.2 a.2 (a.1-(d.1-1)) k) (2*(s+(a.1-(d.1-1))*(t+1))+2):=by
 have hd':cq (d.1-1+1) d.2 t:=by rw[show d.1-1+1=d.1 by omega];exact hd
 obtain⟨D,w,d1,w1,d2,w2,h1,h2⟩:=WZ ha hd' (td.resolve_left aa)
 obtain⟨R,hR⟩:∃R,R=a.1-(d.1-1):=⟨_,rfl⟩
 unfold dP gD
 rw[<-hR]at h1 h2 ⊢
 have hne:∀j,D*w^j≠0:=fun j=>Int.mul_ne_zero d1 (Int.pow_ne_zero w1)
 have hjR:∀{j},j<=R->j*(t+1)<=R*(t+1):=fun h=>Nat.mul_le_mul_right _ h
 have hab:∀j,j<=R->(D*w^j).natAbs<=2^(s+R*(t+1)):=fun j hj=>Nat.le_trans (kM d2 (zk w2 j)) (Nat.pow_le_pow_right (by decide) (by have:=hjR hj;have:=Nat.mul_le_mul_left j (show t<=t+1 by omega);omega))
 refine⟨⟨D*w^R,hne R,hab R aQ,fun i hi=>h1 R aQ i (Nat.lt_of_lt_of_le hi eP)⟩,⟨D*w^R,hne R,hab R aQ,fun k hk=>h2 k (Nat.lt_of_lt_of_le hk eP)⟩,fun j hj i hi=>?_,fun k hk=>?_⟩
 ·exact((h1 j hj i hi).sz (hne j) (hab j hj)).more (by have:=hjR hj;omega)
 ·exact((h2 k hk).sz (hne R) (hab R aQ)).more aa
theorem Bd.dh {a:PP} {s:Nat} (h:Bd a s) (ta:Trim a):Bd (jf a) s:=by
 obtain⟨D,h1,h2,h3⟩:=h
 rcases Nat.eq_zero_or_pos a.1 with h0|h0
 ·exact⟨1,by decide,Nat.one_le_two_pow,fun i hi=>absurd hi (by show¬i<a.1;omega)⟩
 have ht:a.2 (a.1-1)≠0:=ta.resolve_left aa
 obtain⟨w,w1,w2⟩:=h3 (a.1-1) aa
 have hw:w≠0:=fun h=>by
  rw[h]at w1
  have w1:(0:Rat)=a.2 (a.1-1)*(D:Rat):=w1
  exact(Rat.mul_eq_zero.1 w1.symm).elim ht (wH h1)
 refine⟨w,hw,w2,fun i hi=>?_⟩
 obtain⟨z,z1,z2⟩:=h3 i hi
 refine⟨z,?_,z2⟩
 show _=Go.Am.dh a.1 a.2 i*_
 unfold Go.Am.dh
 rw[z1,w1,Rat.div_def]
 have:a.2 (a.1-1)*(a.2 (a.1-1))⁻¹=1:=Rat.mul_inv_cancel _ ht
 generalize (a.2 (a.1-1))⁻¹=v at*
 generalize a.2 (a.1-1)=g at*
 have h4:a.2 i*v*(g*(D:Rat))=a.2 i*(D:Rat)*(g*v):=by grind
 rw[h4,this,Rat.mul_one]
theorem DN {n s:Nat} {k:Nat->Rat} (h:cq n k s) (hn:n<=41):cq (n-1) (dx k) (s+6):=by
 obtain⟨D,h1,h2,h3⟩:=h
 refine⟨D,h1,Nat.le_trans h2 (Nat.pow_le_pow_right (by decide) aa),fun i hi=>?_⟩
 unfold dx
 exact((h3 (i+1) aa).tV (e:=6) aa).more aa
theorem Bd.dx {a:PP} {s:Nat} (h:Bd a s) (ha:a.1<=41):Bd (cP a) (s+6):=(DN h ha).short eP
theorem Bd.neg {a:PP} {s:Nat} (h:Bd a s):Bd (a.1,fun i=>((-1:Int):Rat)*a.2 i) s:=by
 obtain⟨D,h1,h2,h3⟩:=h
 exact⟨D,h1,h2,fun i hi=>((h3 i hi).tV (e:=0) (n:=-1) (by decide)).more aa⟩
theorem FJ {n s τ:Nat} {k:Nat->Rat} {D T:Int} {t:Rat} (h:∀i,i<n->bX D s (k i)) (ht:bX T τ t) (hT:T.natAbs<=2^τ):∀m,m<=n->bX (D*T^m) (s+m*(τ+1)) (fu n k t m)
 |0,_=>bX.zero
 |m+1,hm=>by
  have ih:=FJ h ht hT m aa
  have e1:=ih.mul ht
  have e2:=(h (n-1-m) aa).up (zk hT (m+1))
  have hD:D*T^m*T=D*T^(m+1):=by rw[Int.pow_succ,Int.mul_assoc]
  rw[hD]at e1
  have hs:s+(m+1)*(τ+1)=s+m*(τ+1)+τ+1:=by rw[Nat.add_mul];omega
  rw[hs]
  refine(e1.more aQ).add (e2.more ?_)
  rw[Nat.add_mul,Nat.one_mul]
  have:=Nat.mul_le_mul_left m (show τ<=τ+1 by omega)
  omega
theorem DP:∀δ:Nat,1<=δ->δ+2<=3^δ
 |1,_=>by decide
 |δ+2,_=>by
  have:=DP (δ+1) aa
  rw[Nat.pow_succ];omega
theorem yI (n:Nat):0<3^n:=Nat.pow_pos (by decide)
theorem sF {m n:Nat} (h:m<=n):3^m<=3^n:=Nat.pow_le_pow_right (by decide) h
theorem Bd.more {a:PP} {s t:Nat} (h:Bd a s) (ht:s<=t):Bd a t:=cq.more h ht
theorem F7 {B W M l l':Nat} (hB:B+1<=W*3^(M-l)) (hl:l'<l) (hM:l<=M):B+(l-(l'-1))*(B+1)+1<=W*3^(M-l')\/l'=0:=by
 rcases Nat.eq_zero_or_pos l' with h|h
 ·exact .inr h
 left
 have h1:l-(l'-1)=l-l'+1:=aa
 have h2:=DP (l-l') aa
 have h3:M-l'=M-l+(l-l'):=aa
 rw[h1,h3,Nat.pow_add,<-Nat.mul_assoc]
 have h4:(B+1)*(l-l'+2)<=W*3^(M-l)*3^(l-l'):=Nat.mul_le_mul hB h2
 have h5:(B+1)*(l-l'+2)=B+(l-l'+1)*(B+1)+1:=by
  rw[Nat.mul_comm,show l-l'+2=l-l'+1+1 by omega,Nat.add_mul (l-l'+1)];omega
 omega
theorem Xz {u M l l':Nat} (hl:l<=M) (hl':l'<=M) (h0:0<l'):u+(l-(l'-1))*(u+1)+1<=2*(u+1)*3^(M-l'):=by
 have h1:(l-(l'-1))<=l-l'+1:=aa
 have h2:l-l'+2<=2*3^(l-l'):=by
  rcases Nat.eq_zero_or_pos (l-l')with h|h
  ·rw[h];decide
  ·have:=DP (l-l') h
   have:=yI (l-l');omega
 have h3:3^(l-l')<=3^(M-l'):=sF aa
 have h4:(u+1)*(l-l'+2)<=(u+1)*(2*3^(M-l')):=Nat.mul_le_mul_left _ aa
 have h5:(u+1)*(l-l'+2)=u+(l-l'+1)*(u+1)+1:=by
  rw[Nat.mul_comm,show l-l'+2=l-l'+1+1 by omega,Nat.add_mul (l-l'+1)];omega
 have h6:(l-(l'-1))*(u+1)<=(l-l'+1)*(u+1):=Nat.mul_le_mul_right _ h1
 have h7:(u+1)*(2*3^(M-l'))=2*(u+1)*3^(M-l'):=by rw[<-Nat.mul_assoc,Nat.mul_comm (u+1) 2]
 omega
theorem DL {a b:PP} {u M:Nat} (ta:Trim a) (tb:Trim b) (la:a.1<=M) (lb:b.1<=M) (ha:Bd a u) (hb:Bd b u):∀j,∃B,B+1<=2*(u+1)*3^(M-(bZ (a,b) j).1.1)/\Bd (bZ (a,b) j).1 B/\Bd (bZ (a,b) j).2 B/\(bZ (a,b) j).1.1<=M/\(bZ (a,b) j).2.1<=M/\((bZ (a,b) j).2.1<(bZ (a,b) j).1.1\/j=0/\B=u\/(bZ (a,b) j).2.1=0)
 |0=>by
  have:=yI (M-a.1)
  refine⟨u,?_,ha,hb,la,lb,.inr (.inl ⟨rfl,rfl⟩)⟩
  show u+1<=2*(u+1)*3^(M-a.1)
  have:=Nat.mul_le_mul_left (2*(u+1)) this
  omega
 |j+1=>by
  obtain⟨B,h1,h2,h3,h4,h5,h6⟩:=DL ta tb la lb ha hb j
  have ht:=pe (s:=(a,b)) ta tb j
  show∃B,B+1<=2*(u+1)*3^(M-(fX (bZ (a,b) j)).1.1)/\Bd (fX (bZ (a,b) j)).1 B/\Bd (fX (bZ (a,b) j)).2 B/\(fX (bZ (a,b) j)).1.1<=M/\(fX (bZ (a,b) j)).2.1<=M/\((fX (bZ (a,b) j)).2.1<(fX (bZ (a,b) j)).1.1\/j+1=0/\B=u\/(fX (bZ (a,b) j)).2.1=0)
  generalize bZ (a,b) j=s at*
  unfold fX
  by_cases h0:s.2.1=0
  ·rw[if_pos h0];exact⟨B,h1,h2,h3,h4,h5,.inr (.inr h0)⟩
  ·rw[if_neg h0]
   have hr:=mA (a:=s.1) (d:=s.2) aa ht.2
   have hb:=(Bd.rem h2 h3 aa ht.2).1.dh qA
   refine⟨B+(s.1.1-(s.2.1-1))*(B+1),?_,h3.more (Nat.le_add_right _ _),hb,h5,?_,.inl hr⟩
   ·rcases h6 with h6|⟨_,rfl⟩|h6
    ·exact(F7 h1 h6 h4).resolve_right h0
    ·exact Xz h4 h5 aa
    ·exact absurd h6 h0
   ·show(dP s.1 s.2).1<=M;omega
theorem Cr {a b:PP} {u M:Nat} (ta:Trim a) (tb:Trim b) (la:a.1<=M) (lb:b.1<=M) (ha:Bd a u) (hb:Bd b u):∃B,B+1<=2*(u+1)*3^(M-(cG a b).1)/\Bd (cG a b) B:=by
 obtain⟨B,h1,h2,_⟩:=DL ta tb la lb ha hb b.1
 exact⟨B,h1,h2.dh (pe (s:=(a,b)) ta tb _).1⟩
theorem KV {a b:PP} {u M:Nat} (ta:Trim a) (tb:Trim b) (la:a.1<=M) (lb:b.1<a.1) (ha:Bd a u) (hb:Bd b u):∀j,j<=gQ (a,b)->∃B,B+1<=2*(u+1)*3^(M-(ct (a,b) j).1.1)/\Bd (ct (a,b) j).1 B/\Bd (ct (a,b) j).2 B/\(ct (a,b) j).1.1<=M/\(ct (a,b) j).2.1<(ct (a,b) j).1.1
 |0,_=>by
  have:=yI (M-a.1)
  refine⟨u,?_,ha,hb,la,lb⟩
  show u+1<=2*(u+1)*3^(M-a.1)
  have:=Nat.mul_le_mul_left (2*(u+1)) this
  omega
 |j+1,hj=>by
  obtain⟨B,h1,h2,h3,h4,h5⟩:=KV ta tb la lb ha hb j aa
  have ht:=tT (s:=(a,b)) ta tb j
  have h0:=(uw (s:=(a,b)) ta tb).2.2 j aa
  show∃B,B+1<=2*(u+1)*3^(M-(qG (ct (a,b) j)).1.1)/\Bd (qG (ct (a,b) j)).1 B/\Bd (qG (ct (a,b) j)).2 B/\(qG (ct (a,b) j)).1.1<=M/\(qG (ct (a,b) j)).2.1<(qG (ct (a,b) j)).1.1
  generalize ct (a,b) j=s at*
  have hr:=mA (a:=s.1) (d:=s.2) aa ht.2
  refine⟨B+(s.1.1-(s.2.1-1))*(B+1),(F7 h1 h5 h4).resolve_right h0,h3.more (Nat.le_add_right _ _),(Bd.rem h2 h3 aa ht.2).1.neg,?_,hr⟩
  show s.2.1<=M;omega
theorem Sm {a d:PP} {B M:Nat} (ha:Bd a B) (hd:Bd d B) (h0:0<d.1) (td:Trim d) (hM:a.1-(d.1-1)<=M):
  (∀j,j<=a.1-(d.1-1)->∀i,i<a.1->Sz (cr (d.1-1) d.2 a.2 (a.1-(d.1-1)) j i) (2*((M+1)*(B+1))+2))/\∀k,k<a.1-(d.1-1)->Sz (fc (d.1-1) d.2 a.2 (a.1-(d.1-1)) k) (2*((M+1)*(B+1))+2):=by
 obtain⟨_,_,h1,h2⟩:=ha.rem hd h0 td
 have:B+(a.1-(d.1-1))*(B+1)<=(M+1)*(B+1):=by
  have:=Nat.mul_le_mul_right (B+1) hM
  rw[Nat.add_mul];omega
 exact⟨fun j hj i hi=>(h1 j hj i hi).more aa,fun k hk=>(h2 k hk).more aa⟩
theorem bX.sum {D:Int} {s b:Nat} {f:Nat->Rat} {n:Nat} (hn:n<=2^b) (h:∀i,i<n->bX D s (f i)):bX D (s+b) (sg f n):=by
 have key:∀m,m<=n->∃z:Int,(z:Rat)=sg f m*(D:Rat)/\z.natAbs<=m*2^s:=by
  intro m
  induction m with
  |zero=>exact fun _=>⟨0,by show _=0*_;rw[Rat.zero_mul];rfl,Nat.zero_le _⟩
  |succ m ih=>
   intro hm
   obtain⟨z,z1,z2⟩:=ih aa
   obtain⟨w,w1,w2⟩:=h m aa
   refine⟨z+w,?_,?_⟩
   ·show _=(sg f m+f m)*_
    rw[Rat.intCast_add,z1,w1];grind
   ·have:=Int.natAbs_add_le z w
    rw[Nat.add_mul,Nat.one_mul];omega
 obtain⟨z,z1,z2⟩:=key n aQ
 refine⟨z,z1,Nat.le_trans z2 ?_⟩
 rw[Nat.pow_add,Nat.mul_comm]
 exact Nat.mul_le_mul_left _ hn
theorem bX.ite {D:Int} {s:Nat} {x:Rat} {p:Prop} [Decidable p] (h:bX D s x):bX D s (if p then x else 0):=by
 split
 ·exact h
 ·exact .zero
theorem GU {m n s t:Nat} {D E:Int} {U V:Nat->Rat} (hm:m+1<=64) (hn:n+1<=64) (hU:∀i,bX D s (U i)) (hV:∀j,bX E t (V j)) {i j k:Nat} (hi:i<=m+1) (hj:j<=n+1):
  bX (D*E) (s+t+13) (sg (fun i=>sg (fun j=>if i+j=k then U i*V j else 0) (n+1)) i+sg (fun j=>if i+j=k then U i*V j else 0) j):=by
 have h1:∀i,∀j,j<=n+1->bX (D*E) (s+t+6) (sg (fun j=>if i+j=k then U i*V j else 0) j):=fun i j hj=>bX.sum aa fun j _=>((hU i).mul (hV j)).ite
 have h2:bX (D*E) (s+t+6+6) (sg (fun i=>sg (fun j=>if i+j=k then U i*V j else 0) (n+1)) i):=bX.sum aa fun i _=>h1 i _ aQ
 exact h2.add ((h1 i j hj).more aa)
theorem Ki {m n s t:Nat} {D E:Int} {U V:Nat->Rat} (hm:m+1<=64) (hn:n+1<=64) (hU:∀i,bX D s (U i)) (hV:∀j,bX E t (V j)) (k:Nat):bX (D*E) (s+t+13) (jv m n U V k):=by
 have:=GU hm hn hU hV (k:=k) (Nat.le_refl (m+1)) (Nat.zero_le (n+1))
 unfold jv
 rw[show sg (fun j=>if m+1+j=k then U (m+1)*V j else 0) 0=0 from rfl,Rat.add_zero]at this
 exact this
def jd (N:Nat):Nat->Nat
 |0=>1
 |k+1=>jd N k*(if k<=N then bn N k else 1)
theorem AP {N:Nat}:∀k,0<jd N k
 |0=>Nat.one_pos
 |k+1=>by
  unfold jd
  refine Nat.mul_pos (AP k) ?_
  split
  ·rename_i h;exact zJ h
  ·exact Nat.one_pos
theorem uD {N:Nat}:∀k,jd N k<=2^(k*N)
 |0=>by rw[Nat.zero_mul];exact Nat.le_refl _
 |k+1=>by
  unfold jd
  rw[Nat.add_mul,Nat.one_mul,Nat.pow_add]
  refine Nat.mul_le_mul (uD k) ?_
  split
  ·exact qL N k
  ·exact Nat.one_le_two_pow
theorem Il {N i:Nat} (hi:i<=N):∀k,i<k->∃w,jd N k=bn N i*w/\w<=jd N k
 |0,h=>absurd h (Nat.not_lt_zero _)
 |k+1,h=>by
  rcases Nat.eq_or_lt_of_le (Nat.le_of_lt_succ h)with h1|h1
  ·subst h1
   refine⟨jd N i,?_,?_⟩
   ·show jd N i*(if i<=N then bn N i else 1)=_
    rw[if_pos hi,Nat.mul_comm]
   ·show _<=jd N i*(if i<=N then bn N i else 1)
    rw[if_pos hi]
    exact Nat.le_mul_of_pos_right _ (zJ hi)
  ·obtain⟨w,w1,w2⟩:=Il hi k h1
   refine⟨w*(if k<=N then bn N k else 1),?_,?_⟩
   ·show jd N k*_=_
    rw[w1,Nat.mul_assoc]
   ·show _<=jd N k*_
    exact Nat.mul_le_mul_right _ w2
theorem bX.Iz {D:Int} {s N i:Nat} {x:Rat} (h:bX D s x) (hi:i<=N):bX (D*(jd N (N+1):Nat)) (s+(N+1)*N) (x/bq N i):=by
 obtain⟨z,z1,z2⟩:=h
 obtain⟨w,w1,w2⟩:=Il hi (N+1) aa
 refine⟨z*(w:Int),?_,?_⟩
 ·have hb:=xW hi
  rw[w1,Rat.intCast_mul,z1,Rat.intCast_mul,Int.natCast_mul,Rat.intCast_mul,Rat.div_def]
  have:bq N i*(bq N i)⁻¹=1:=Rat.mul_inv_cancel _ hb
  show x*(D:Rat)*((w:Int):Rat)=x*(bq N i)⁻¹*((D:Rat)*(bq N i*((w:Int):Rat)))
  generalize (bq N i)⁻¹=v at*
  generalize bq N i=g at*
  generalize ((w:Int):Rat)=y
  have h4:x*v*((D:Rat)*(g*y))=x*(D:Rat)*y*(g*v):=by grind
  rw[h4,this,Rat.mul_one]
 ·rw[Int.natAbs_mul,Nat.pow_add,Int.natAbs_natCast]
  exact Nat.mul_le_mul z2 (Nat.le_trans w2 (uD _))
theorem yp {D:Int} {m s:Nat} {p:Nat->Rat} (h:∀i,i<m+1->bX D s (p i)) (i:Nat):bX D (s+m) (bq m i*p i):=by
 by_cases hi:i<m+1
 ·have:=(h i hi).tV (e:=m) (n:=(bn m i:Nat)) (by rw[Int.natAbs_natCast];exact qL m i)
  exact this.more aa
 ·rw[qH aa,Rat.zero_mul];exact .zero
theorem Bo {m n s t:Nat} {p q:Nat->Rat} (hm:m+n<=40) (hp:cq (m+1) p s) (hq:cq (n+1) q t):cq (m+n+1) (jD m n p q) (s+t+(m+n)+13+(m+n+1)*(m+n)):=by
 obtain⟨D,d1,d2,d3⟩:=hp
 obtain⟨E,e1,e2,e3⟩:=hq
 refine⟨D*E*(jd (m+n) (m+n+1):Nat),?_,?_,fun k hk=>?_⟩
 ·have:=AP (N:=m+n) (m+n+1)
  exact Int.mul_ne_zero (Int.mul_ne_zero d1 e1) aa
 ·have h1:=kM (kM d2 e2) (show((jd (m+n) (m+n+1):Nat):Int).natAbs<=2^((m+n+1)*(m+n)) by rw[Int.natAbs_natCast];exact uD _)
  exact Nat.le_trans h1 (Nat.pow_le_pow_right (by decide) aa)
 ·unfold jD
  exact((Ki aa aa (yp d3) (yp e3) k).Iz aa).more aa
theorem LO {m n s t:Nat} {p q:Nat->Rat} (hm:m+n<=40) (hp:cq (m+1) p s) (hq:cq (n+1) q t) {i j k:Nat} (hi:i<=m+1) (hj:j<=n+1):
  Sz (sg (fun i=>sg (fun j=>if i+j=k then bq m i*p i*(bq n j*q j)else 0) (n+1)) i+sg (fun j=>if i+j=k then bq m i*p i*(bq n j*q j)else 0) j) (2*(s+t+(m+n)+13)+2):=by
 obtain⟨D,d1,d2,d3⟩:=hp
 obtain⟨E,e1,e2,e3⟩:=hq
 have:=GU (k:=k) aa aa (yp d3) (yp e3) hi hj
 exact(this.sz (Int.mul_ne_zero d1 e1) (Nat.le_trans (kM d2 e2) aQ)).more aa
theorem uN {D:Int} {s n:Nat} {p:Nat->Rat} (h:∀i,i<n->bX D s (p i)):∀k i,k+i<n->bX D (s+k) (dH p k i)
 |0,i,hi=>h i aa
 |k+1,i,hi=>by
  obtain⟨z,z1,z2⟩:=uN h k (i+1) aa
  obtain⟨w,w1,w2⟩:=uN h k i aa
  refine⟨z-w,?_,?_⟩
  ·show _=(dH p k (i+1)-dH p k i)*_
   rw[Rat.intCast_sub,z1,w1];grind
  ·have:=Int.natAbs_sub_le z w
   rw[show s+(k+1)=s+k+1 by omega,Nat.pow_succ];omega
theorem zn {n s:Nat} {p:Nat->Rat} (h:cq n p s):cq n (fy n p) (s+2*n):=by
 obtain⟨D,d1,d2,d3⟩:=h
 refine⟨D,d1,Nat.le_trans d2 (Nat.pow_le_pow_right (by decide) aa),fun k hk=>?_⟩
 unfold fy
 have:=(uN d3 k 0 aa).tV (e:=n-1) (n:=(bn (n-1) k:Nat)) (by rw[Int.natAbs_natCast];exact qL _ k)
 exact this.more aa
theorem Bd.cf {a:PP} {s:Nat} (h:Bd a s):∃D:Int,D≠0/\D.natAbs<=2^s/\∀i,bX D s (ek a i):=by
 obtain⟨D,d1,d2,d3⟩:=h
 refine⟨D,d1,d2,fun i=>?_⟩
 unfold ek
 split
 ·rename_i hi;exact d3 i hi
 ·exact .zero
theorem EM {a b:PP} {s t:Nat} (ha:Bd a s) (hb:Bd b t) (la:a.1<=60) (lb:b.1<=60):Bd (fh a b) (s+t+13):=by
 obtain⟨D,d1,d2,d3⟩:=ha.cf
 obtain⟨E,e1,e2,e3⟩:=hb.cf
 exact⟨D*E,Int.mul_ne_zero d1 e1,Nat.le_trans (kM d2 e2) (Nat.pow_le_pow_right (by decide) aa),fun k _=>Ki aa aa d3 e3 k⟩
theorem Ui {a b:PP}:(gV (fh a b)).1=0\/(gV (fh a b)).1+1<=(gV a).1+(gV b).1:=by
 rcases Nat.eq_zero_or_pos (gV (fh a b)).1 with h|h
 ·exact .inl h
 ·right
  have:=Dm (c:=gV (fh a b)) (a:=gV a) (b:=gV b) (fun t=>by rw[mH,mH,mH,jb]) h nI nI nI
  omega
theorem vw {a:PP}:(gV a).1<=a.1:=eP
theorem j6.of_eq {c d h f:PP} (s:j6 c h f) (e:∀t,bN c t=bN d t):j6 d h f:=
 ⟨fun t=>by rw[<-e,s.eq],s.dv.of_eq fun t=>by rw[pN,pN,Kx e]⟩
def dy (p q:PP):PP:=(p.1-1+(q.1-1)+1,jD (p.1-1) (q.1-1) p.2 q.2)
def iH (p q:PP):Nat->PP
 |0=>p
 |j+1=>dy (iH p q j) q
def iD (q:PP):PP:=(q.1,fy q.1 q.2)
def dN (p:PP) (t:Rat):Rat:=cs (p.1-1) p.2 t
theorem vO {q:PP} (h:1<=q.1) (t:Rat):bN (iD q) t=dN q t:=by
 obtain⟨n,k⟩:=q
 obtain⟨m,rfl⟩:∃m,n=m+1:=⟨n-1,by have h:1<=n:=h;omega⟩
 exact Bx
theorem sJ {p q:PP} (t:Rat):dN (dy p q) t=dN p t*dN q t:=by
 unfold dN dy
 rw[Nat.add_sub_cancel]
 exact UW
structure mB (q:PP):Prop where
 lo:1<=q.1
 hi:q.1<=3
 bd:Bd q 7
theorem mB.pw {q:PP} (h:mB q):Bd (iD q) 13:=by
 have h1:cq q.1 (fy q.1 q.2) (7+2*q.1):=zn h.bd
 exact h1.more (by have:=h.hi;omega)
structure nX (i:Nat) (p:PP):Prop where
 lo:1<=p.1
 hi:p.1<=4*i+1
 bd:Bd p (400*i)
 pw:∃c h f:PP,(∀t,bN c t=dN p t)/\Bd c (52*i)/\c.1<=8*i+1/\j6 c h f/\(gV f).1<=2*i+1
theorem nX.one:nX 0 (1,fun _=>1) where
 lo:=aQ
 hi:=aQ
 bd:=⟨1,by decide,aQ,fun i _=>⟨1,(Rat.one_mul _).symm,aQ⟩⟩
 pw:=⟨kz,kz,kz,fun t=>by rw[oO];rfl,⟨1,by decide,aQ,fun i _=>⟨1,(Rat.one_mul _).symm,aQ⟩⟩,aQ,j6.one,vw⟩
theorem zh {p q:PP} (hp:1<=p.1) (hq:mB q):∀j,1<=(iH p q j).1/\(iH p q j).1<=p.1+2*j
 |0=>⟨hp,aQ⟩
 |j+1=>by
  have:=zh hp hq j
  have h2:=hq.hi
  show 1<=(iH p q j).1-1+(q.1-1)+1/\(iH p q j).1-1+(q.1-1)+1<=_
  omega
theorem Dc {p q:PP} {s:Nat} (hp:1<=p.1) (hq:mB q) (hb:Bd p s):∀j,p.1+2*j<=13->Bd (iH p q j) (s+200*j)
 |0,_=>hb
 |j+1,h=>by
  have ih:=Dc hp hq hb j aa
  have hl:=zh hp hq j
  have h1:=hq.lo
  have h2:=hq.hi
  have hb2:cq ((iH p q j).1-1+1) (iH p q j).2 (s+200*j):=by rw[show(iH p q j).1-1+1=(iH p q j).1 by omega];exact ih
  have hb3:cq (q.1-1+1) q.2 7:=by rw[show q.1-1+1=q.1 by omega];exact hq.bd
  have:=Bo aa hb2 hb3
  refine cq.more this ?_
  have h5:(iH p q j).1-1+(q.1-1)<=12:=aa
  have h6:((iH p q j).1-1+(q.1-1)+1)*((iH p q j).1-1+(q.1-1))<=13*12:=Nat.mul_le_mul aa h5
  omega
theorem nX.step {i r:Nat} {p q:PP} (h:nX i p) (hq:mB q) (hi:i<=2) (hr:1<=r/\r<=2):nX (i+1) (iH p q r):=by
 have hl:=zh h.lo hq r
 have h1:=h.hi
 obtain⟨c,hh,f,c1,c2,c3,c4,c5⟩:=h.pw
 have hq1:=hq.lo
 have hq2:=hq.hi
 have hcq:(iD q).1=q.1:=rfl
 have hcu:(gV (iD q)).1<=3:=Nat.le_trans vw hq2
 have hf:(gV (fh f (iD q))).1<=2*(i+1)+1:=by
  rcases Ui (a:=f) (b:=iD q)with h0|h0<;>omega
 have e1:∀t,bN (fh c (iD q)) t=bN c t*bN (iD q) t:=fun t=>jb
 have l1:(fh c (iD q)).1=c.1+q.1+1:=rfl
 have b1:=EM c2 hq.pw aa aa
 refine⟨hl.1,aa,(Dc h.lo hq h.bd r aa).more aa,?_⟩
 rcases(show r=1\/r=2 by omega)with rfl|rfl
 ·refine⟨fh c (iD q),hh,fh f (iD q),fun t=>?_,b1.more aa,aa,c4.SX e1,hf⟩
  show _=dN (dy p q) t
  rw[sJ,e1,c1,vO hq1]
 ·have b2:=EM b1 hq.pw aa aa
  have l2:(fh (fh c (iD q)) (iD q)).1=(fh c (iD q)).1+q.1+1:=rfl
  refine⟨fh (fh c (iD q)) (iD q),fh hh (iD q),fh f (iD q),fun t=>?_,b2.more aa,aa,c4.Yl fun t=>by rw[jb,e1],hf⟩
  show _=dN (dy (dy p q) q) t
  rw[sJ,sJ,jb,e1,c1,vO hq1]
structure jl (c:PP):Prop where
 tr:Trim c
 len:c.1<=13
 bd:Bd c 156
 sq:∃h f:PP,j6 c h f/\(gV f).1<=7
theorem nX.gd {i:Nat} {p:PP} (h:nX i p) (hi:i<=3):jl (bO (fy p.1 p.2) p.1,fy p.1 p.2):=by
 obtain⟨c,hh,f,c1,c2,c3,c4,c5⟩:=h.pw
 have h1:=h.hi
 have e:∀t,bN (gV c) t=bN (bO (fy p.1 p.2) p.1,fy p.1 p.2) t:=fun t=>by
  rw[mH,c1,<-vO h.lo]
  exact sZ.symm
 have hb:Bd (gV c) (52*i):=cq.short c2 vw
 refine⟨lJ,?_,(hb.CL (DW nI lJ e)).more aa,hh,f,c4.of_eq fun t=>by rw[<-e,mH],aa⟩
 have:bO (fy p.1 p.2) p.1<=p.1:=eP
 show bO _ _<=13
 omega
theorem DU {n s:Nat} {c:Nat->Rat} {D:Int} (h:∀i,i<n->bX D s (c i)) {i:Nat} (hi:i<n):∀k,k<=n->bX (D*(jd (n-1) (n-1+1):Nat)) (s+(n-1+1)*(n-1)+n+k) (jo n c i k)
 |0,_=>.zero
 |k+1,hk=>by
  have ih:=DU h hi k aa
  have h1:=((h k aa).Iz (N:=n-1) (i:=k) aa).tV (e:=n) (n:=(bn i k:Nat)) (by rw[Int.natAbs_natCast];exact Nat.le_trans (qL i k) (Nat.pow_le_pow_right (by decide) aa))
  have h2:=ih.add (h1.more (t:=s+(n-1+1)*(n-1)+n+k) aa)
  have e:jo n c i (k+1)=jo n c i k+((bn i k:Nat):Int)*(c k/bq (n-1) k):=by
   show jo n c i k+((bn i k:Int):Rat)/bq (n-1) k*c k=_
   rw[Rat.div_def,Rat.div_def];grind
  rw[e];exact h2
theorem A8 {n s:Nat} {c:Nat->Rat} (hb:cq n c s) {i k:Nat} (hi:i<n) (hk:k<=n):Sz (jo n c i k) (2*(s+n*n+2*n)+2):=by
 obtain⟨D,d1,d2,d3⟩:=hb
 have h1:=DU d3 hi k hk
 have h2:=AP (N:=n-1) (n-1+1)
 have h3:(n-1+1)*(n-1)<=n*n:=Nat.mul_le_mul aa aa
 have h4:=kM d2 (show((jd (n-1) (n-1+1):Nat):Int).natAbs<=2^((n-1+1)*(n-1)) by rw[Int.natAbs_natCast];exact uD _)
 exact(h1.sz (Int.mul_ne_zero d1 aa) h4).more aa
end Go.Am
namespace Go.Am.B
open Go Go.Am.N AV af aq IntKind Proofs.Tryz
theorem kI {n s:Nat} {k:Nat->Rat} (h:cq n k s) (hs:2*s+2<=ah):cu n k:=fun i hi=>(h.sz hi).more hs
theorem wQ {a d:PP} {B M:Nat} (ha:Bd a B) (hd:Bd d B) (h0:0<d.1) (td:Trim d) (hM:a.1-(d.1-1)<=M) (hB:2*((M+1)*(B+1))+2<=ah):nD a d:=by
 obtain⟨h1,h2⟩:=Sm ha hd h0 td hM
 exact⟨fun j hj i hi=>(h1 j hj i hi).more hB,fun k hk=>(h2 k hk).more hB⟩
theorem sO {a d:PP} {B M:Nat} (ha:Bd a B) (hd:Bd d B) (h0:0<d.1) (td:Trim d) (hM:a.1-(d.1-1)<=M):Bd (dP a d) ((M+1)*(B+1))/\Bd (gD a d) ((M+1)*(B+1)):=by
 obtain⟨h1,h2,_⟩:=ha.rem hd h0 td
 have:B+(a.1-(d.1-1))*(B+1)<=(M+1)*(B+1):=by
  have:=Nat.mul_le_mul_right (B+1) hM
  rw[Nat.add_mul];omega
 exact⟨h1.more this,h2.more this⟩
theorem D0 {a b:PP} {u M:Nat} (ta:Trim a) (tb:Trim b) (la:a.1<=M) (lb:b.1<=M) (h1M:1<=M) (ha:Bd a u) (hb:Bd b u) (hX:2*((M+1)*(2*(u+1)*3^(M-1)))+2<=ah):j9 (a,b):=by
 have hle:∀{B l:Nat},B+1<=2*(u+1)*3^(M-l)->1<=l->B+1<=2*(u+1)*3^(M-1):=fun h1 h2=>Nat.le_trans h1 (Nat.mul_le_mul_left _ (sF aa))
 have hX2:∀{B:Nat},B+1<=2*(u+1)*3^(M-1)->2*((M+1)*(B+1))+2<=ah:=fun h=>by
  have:=Nat.mul_le_mul_left (M+1) h
  omega
 refine⟨fun j hj=>?_,fun i hi=>?_⟩
 ·obtain⟨B,b1,b2,b3,b4,b5,b6⟩:=DL ta tb la lb ha hb j
  have ht:=pe (s:=(a,b)) ta tb j
  have hB:B+1<=2*(u+1)*3^(M-1):=by
   rcases b6 with h|⟨_,rfl⟩|h
   ·exact hle b1 aa
   ·have h3:=yI (M-1)
    have:=Nat.mul_le_mul_left (2*(B+1)) h3
    omega
   ·exact absurd h hj
  refine⟨wQ b2 b3 aa ht.2 aa (hX2 hB),?_⟩
  have hm:=(sO b2 b3 aa ht.2 (show _<=M by omega)).1.dh qA
  exact kI hm (hX2 hB)
 ·obtain⟨B,b1,b2⟩:=Cr ta tb la lb ha hb
  have hi:i<(cG a b).1:=hi
  have hB:=hle b1 aa
  have:=hX2 hB
  have h1:B+1<=(M+1)*(B+1):=Nat.le_mul_of_pos_left _ aa
  exact(cq.sz b2 hi).more aa
theorem zH {c:PP} (h:jl c):Bd (cP c) 162:=Bd.more (h.bd.dx (by have:=h.len;omega)) aa
theorem Ni {c:PP}:(cP c).1<=c.1-1:=eP
theorem Eg {c:PP} (h:jl c) (h0:0<c.1):Bd (cG c (cP c)) 237653/\c.1-(cG c (cP c)).1<=6/\0<(cG c (cP c)).1/\(cG c (cP c)).1<=c.1:=by
 obtain⟨hh,f,s1,s2⟩:=h.sq
 have hl:=h.len
 obtain⟨l1,l2,l3⟩:=Dm (a:=gV hh) (b:=gV f) (fun t=>by rw[s1.eq,mH,mH]) h0 h.tr nI nI
 have hd:Dv hh c:=⟨f,s1.eq⟩
 have hg:Dv (gV hh) (cG c (cP c)):=(EI hd s1.dv).imp fun w hw t=>by rw[hw,mH]
 have hl2:=hg.len (CK h0) (nH h.tr gl) nI
 have hd2:c.1-(cG c (cP c)).1<=6:=aa
 obtain⟨B,b1,b2⟩:=Cr (M:=c.1) h.tr gl aQ (Nat.le_trans Ni aa) (h.bd.more (show 156<=162 by omega)) (zH h)
 have h3:3^(c.1-(cG c (cP c)).1)<=3^6:=sF hd2
 have h4:2*(162+1)*3^(c.1-(cG c (cP c)).1)<=2*(162+1)*3^6:=Nat.mul_le_mul_left _ h3
 exact⟨b2.more aa,hd2,CK h0,xG h.tr⟩
theorem yw {c:PP} (h:jl c) (h0:0<c.1):Bd (dA c) 1901232/\(dA c).1<=7:=by
 obtain⟨g1,g2,g3,g4⟩:=Eg h h0
 have hq:=(sO (M:=7) (h.bd.more (show 156<=237653 by omega)) g1 g3 (nH h.tr gl) aa).2.dh FX
 unfold dA
 rw[if_neg aa]
 refine⟨Bd.more hq aa,?_⟩
 show bO _ _<=7
 exact Nat.le_trans eP aa
theorem yK {c:PP} (h:jl c) (h0:0<c.1):Dy c/\JG c:=by
 have hW:=dg
 have hl:=h.len
 obtain⟨g1,g2,g3,g4⟩:=Eg h h0
 obtain⟨f1,f2⟩:=yw h h0
 have hd:=wQ (M:=7) (h.bd.more (show 156<=237653 by omega)) g1 g3 (nH h.tr gl) aa aa
 have hf:cu (dA c).1 (dA c).2:=kI f1 aa
 have hder:cu (c.1-1) (dx c.2):=kI (DN h.bd aa) aa
 have h13:2*((13+1)*(2*(162+1)*3^(13-1)))+2<=ah:=by rw[hW];decide
 have b1:=h.bd.more (show 156<=162 by omega)
 have hdl:(cP c).1<=13:=Nat.le_trans Ni aa
 refine⟨⟨aa,h.tr,hder,fun _=>⟨D0 h.tr gl hl hdl aa b1 (zH h) h13,hd,hf⟩⟩,⟨aa,aa,h.tr,hder,fun _=>⟨⟨kI (b1.dh h.tr) aa,kI ((zH h).dh gl) aa,D0 (vm h.tr) (vm gl) hl hdl aa (b1.dh h.tr) ((zH h).dh gl) h13⟩,hd,hf⟩⟩⟩
theorem MR {c:PP} (h:jl c) (h0:0<c.1):∀j,j<=gQ (ia c)->∃B,B+1<=2772006462/\Bd (ct (ia c) j).1 B/\Bd (ct (ia c) j).2 B/\(ct (ia c) j).1.1<=7/\(ct (ia c) j).2.1<(ct (ia c) j).1.1:=fun j hj=>by
 obtain⟨f1,f2⟩:=yw h h0
 have hfp:0<(dA c).1:=by
  obtain⟨g1,g2,g3,g4⟩:=Eg h h0
  rcases Nat.eq_zero_or_pos (dA c).1 with h9|h9
  ·exfalso
   unfold dA at h9
   rw[if_neg aa]at h9
   have h9:(gD c (cG c (cP c))).1=0:=h9
   have h10:=fun t=>Ar (a:=c) (d:=cG c (cP c)) g3 t
   have:=ve h.tr (b:=dP c (cG c (cP c))) (qp fun t=>by rw[h10,iN h9,Rat.zero_mul,Rat.zero_add])
   have:=mA (a:=c) g3 (nH h.tr gl)
   omega
  ·exact h9
 have hfd:Bd (cP (dA c)) 1901238:=f1.dx aa
 have hdl:(cP (dA c)).1<=(dA c).1-1:=eP
 obtain⟨B,b1,b2,b3,b4,b5⟩:=KV (a:=dA c) (b:=cP (dA c)) uJ gl f2 aa (f1.more (show 1901232<=1901238 by omega)) hfd j hj
 have h3:3^(7-(ct (dA c,cP (dA c)) j).1.1)<=3^6:=sF aa
 have h4:=Nat.mul_le_mul_left (2*(1901238+1)) h3
 exact⟨B,aa,b2,b3,b4,b5⟩
theorem IX {c:PP} (h:jl c) (h0:0<c.1):AS (ia c):=fun j hj=>by
 have hW:=dg
 obtain⟨B,b1,b2,b3,b4,b5⟩:=MR h h0 j aa
 have ht:=tT (s:=ia c) uJ gl j
 have hn:=(uw (s:=ia c) uJ gl).2.2 j hj
 refine⟨wQ (M:=7) b2 b3 aa ht.2 aa aa,?_⟩
 have hr:=(sO (M:=7) b2 b3 aa ht.2 aa).1.neg
 exact kI hr aa
theorem yZ {c:PP} (h:jl c) (h0:0<c.1):pM c/\G4 c:=by
 have hW:=dg
 obtain⟨f1,f2⟩:=yw h h0
 have hder:cu ((dA c).1-1) (dx (dA c).2):=kI (DN f1 aa) aa
 exact⟨⟨(yK h h0).1,hder,IX h h0⟩,⟨(yK h h0).2,hder,IX h h0⟩⟩
theorem ym {c:PP} (h:jl c) (h0:0<c.1):dm c<=8:=by
 obtain⟨f1,f2⟩:=yw h h0
 have:=(uw (s:=ia c) uJ gl).1
 have h2:(ia c).2.1<=(dA c).1-1:=eP
 show gQ (ia c)+1<=8
 omega
theorem acs {c:PP} (h:jl c) (h0:0<c.1) {i:Nat} (hi:i<dm c):Bd (dz c i) 2772006461/\(dz c i).1<=7:=by
 obtain⟨B,b1,b2,b3,b4,b5⟩:=MR h h0 i (by have hi:i<gQ (ia c)+1:=hi;omega)
 exact⟨b2.more aa,b4⟩
theorem tu {a:PP} {s:Nat} (h:Bd a s) (hl:a.1<=41) (hs:2*(s+a.1*a.1+2*a.1)+2<=ah):jq a:=⟨hl,fun i k hi hk=>(A8 h hi aa).more hs⟩
theorem aek {a:PP} {s τ:Nat} {T:Int} {t:Rat} (h:Bd a s) (ht:bX T τ t) (hT:T.natAbs<=2^τ) (hT0:T≠0) (hl:a.1<=7) (hs:2*(s+7*(τ+1))+2<=ah):m7 a t:=by
 obtain⟨D,d1,d2,d3⟩:=h
 intro m hm
 have h1:=FJ d3 ht hT m hm
 have h2:=kM d2 (zk hT m)
 have h3:m*(τ+1)<=7*(τ+1):=Nat.mul_le_mul_right _ aa
 have h4:m*τ<=7*(τ+1):=Nat.mul_le_mul aa aa
 exact((h1.more (show s+m*(τ+1)<=s+7*(τ+1) by omega)).sz (Int.mul_ne_zero d1 (Int.pow_ne_zero hT0)) (Nat.le_trans h2 (Nat.pow_le_pow_right (by decide) (show s+m*τ<=s+7*(τ+1) by omega)))).more aa
theorem tJ {c:PP} (h:jl c) (h0:0<c.1) {τ:Nat} {T:Int} {t:Rat} (ht:bX T τ t) (hT:T.natAbs<=2^τ) (hT0:T≠0) (hs:τ<=2^31):eA (dm c) (dz c) t:=fun i hi=>by
 have hW:=dg
 obtain⟨b1,b2⟩:=acs h h0 hi
 exact⟨aa,aek b1 ht hT hT0 b2 aa⟩
abbrev nB (n:Nat) (z:Nat->Int) (a:Int):ay:=jM n (fun i=>.int .i64 (z i)) a
structure r6 where
 k:Nat->Rat
 t:Rat
 a:Int
def CB (n:Nat) (f:Nat->AV) (t:Rat) (a:Int):Rat:=t+((1+cz n f a 3:Int):Rat)/((1+cz n f (bA n a) 2:Int):Rat)
def Fg (n:Nat) (f:Nat->AV) (p j:Nat) (s:r6):r6:=
 if j=0\/0<cz n f s.a 3\/s.t=s.k (j+1)then
  ⟨u9 s.k (p+1+j) (CB n f s.t (if j=0 then s.a else bA n s.a)),CB n f s.t (if j=0 then s.a else bA n s.a),bA n (bA n (if j=0 then s.a else bA n s.a))⟩
 else⟨u9 s.k (p+1+j) s.t,s.t,if j=0 then s.a else bA n s.a⟩
def qq (n:Nat) (f:Nat->AV) (p:Nat) (s0:r6):Nat->r6
 |0=>s0
 |j+1=>Fg n f p j (qq n f p s0 j)
def uL (n:Nat) (f:Nat->AV) (a:Int):r6:=⟨fun _=>((cz n f a 4-2:Int):Rat),((cz n f a 4-2:Int):Rat),bA n (bA n a)⟩
def knJ (n:Nat) (f:Nat->AV) (a:Int) (m:Nat):Nat:=(cz n f (bA n a) (m+1)).toNat
def Rm (n:Nat) (f:Nat->AV) (a:Int) (p m:Nat):r6:=qq n f p (uL n f a) (knJ n f a m)
def P6 (n:Nat) (f:Nat->AV) (a:Int) (p m:Nat):Int:=(Rm n f a p m).a
theorem Ih {n:Nat} {f:Nat->AV} {a:Int} {p:Nat} (hd:cL n f a) (hp:1<=p):∀j,KG p j (qq n f p (uL n f a) j).k (qq n f p (uL n f a) j).t/\cL n f (qq n f p (uL n f a) j).a
 |0=>by
  have h1:=iY (n:=n) (f:=f) (a:=a) (m:=4) aa
  have h2:=ja (n:=n) (f:=f) (a:=a) (m:=4) aa
  exact⟨KG.start hp aa aa,hd.next.next⟩
 |j+1=>by
  obtain⟨h1,h2⟩:=Ih hd hp j
  unfold qq Fg CB
  generalize qq n f p (uL n f a) j=s at*
  obtain⟨k,t,b⟩:=s
  simp only at h1 h2 ⊢
  have hb:cL n f (if j=0 then b else bA n b):=by split;exact h2;exact h2.next
  generalize (if j=0 then b else bA n b)=a1 at*
  split
  ·have x1:=iY (n:=n) (f:=f) (a:=a1) (m:=3) aa
   have x2:=ja (n:=n) (f:=f) (a:=a1) (m:=3) aa
   have y1:=iY (n:=n) (f:=f) (a:=bA n a1) (m:=2) aa
   have y2:=ja (n:=n) (f:=f) (a:=bA n a1) (m:=2) aa
   refine⟨h1.next (.inl ?_),hb.next.next⟩
   generalize cz n f a1 3=x at*
   generalize cz n f (bA n a1) 2=y at*
   have key:∃z:Int,((1+x:Int):Rat)/((1+y:Int):Rat)=(z:Rat)/2/\1<=z/\z<=6:=by
    rcases(show y=0\/y=1 by omega)with h|h
    ·subst h
     refine⟨2*(1+x),?_,aa,aa⟩
     have:((2*(1+x):Int):Rat)=2*((1+x:Int):Rat):=by simp
     rw[this]
     generalize ((1+x:Int):Rat)=w
     simp;grind
    ·subst h
     exact⟨1+x,by simp,aa,aa⟩
   obtain⟨z,e,z1,z2⟩:=key
   rw[e]
   refine⟨?_,z,rfl,z2⟩
   have:(1:Rat)<=(z:Rat):=by exact_mod_cast z1
   grind
  ·rename_i hc
   have hc1:¬j=0:=fun h=>hc (.inl h)
   have hc2:¬t=k (j+1):=fun h=>hc (.inr (.inr h))
   exact⟨h1.next (.inr ⟨rfl,aa,hc2⟩),hb⟩
theorem VU {z:Int} (h1:-2^63<=z) (h2:z<2^63):Sz ((z:Rat)/2) 64:=by
 have:=JY h1 h2 (y:=2) aa aa aa
 simpa using this
theorem KG.sz {p j:Nat} {k:Nat->Rat} {t:Rat} (h:KG p j k t) (hj:j<2^50):Sz t 64:=by
 obtain⟨z,e,h1,h2⟩:=h.half (p+j) aQ
 rw[h.top]at e
 rw[e]
 exact VU aa aa
def YD (n:Nat) (f:Nat->AV) (a:Int):Int:=bA n (HB n f a)
def Kw (n:Nat) (f:Nat->AV) (a:Int):Nat->Int
 |0=>a
 |j+1=>YD n f (Kw n f a j)
theorem cL.J7 {n:Nat} {f:Nat->AV} {a:Int} (h:cL n f a):∀j,cL n f (Kw n f a j)
 |0=>h
 |j+1=>(h.J7 j).N6.next
theorem cL.oJ {n:Nat} {f:Nat->AV} {a:Int} {p m:Nat} (h:cL n f a) (hp:1<=p):cL n f (P6 n f a p m):=(Ih h hp _).2
def nM:bg:=zG::(91,Ao)::(93,jm kR kR LL pz)::ki
abbrev zM:Code:=aG f31
abbrev wg:Code:=part zM [1,1,1,1,0,1,0,0]
abbrev wK:Code:=part wg [1,0,0]
abbrev qI:Code:=part zM [1,1,1,1,1]
abbrev qN:List Nat:=[0,1,6,7,8,9]
abbrev yd (m n:Nat) (p q:Nat->Rat) (i:Nat):List AV:=[aZ p (m+1) ah,aZ q (n+1) ah,.int .i64 m,.int .i64 n,.own 0 3 0 (m+n+1),.int .i64 i]
abbrev vF:List Nat:=[0,1,6,7,8,9,10]
abbrev Co (m n:Nat) (p q:Nat->Rat) (i j:Nat):List AV:=[aZ p (m+1) ah,aZ q (n+1) ah,.int .i64 m,.int .i64 n,.own 0 3 0 (m+n+1),.int .i64 i,.int .i64 j]
abbrev vT:List Nat:=[6,7,8,12]
abbrev BY (m n k:Nat):List AV:=[.int .i64 m,.int .i64 n,.own 0 3 0 (m+n+1),.int .i64 k]
abbrev mP (m n:Nat) (x:Nat->Rat):aE:=[(0,cF (m+n+1) x ah)]
theorem Ge:aX 31 f31:=aY func31
theorem adj {m n:Nat} {p q:Nat->Rat}:aH T nM [200022] 60 qN (before zM [1,1,1,1,0,1]) ⟨aS 0 [aZ p (m+1) ah,aZ q (n+1) ah],[],0⟩=
  let c4:Int:=(↑(m+1):Int)-1;let c3:Int:=(↑(n+1):Int)-1;let c2:Int:=(2:Int)^63;let c1:Int:=c4+c3;let c5:Int:=c1+1;some (aj [-c2<=c4/\c4<c2,-c2<=c3/\c3<c2] (aj [-c2<=c1/\c1<c2] (aj [decide (c1>40)=false] (aj [-c2<=c1/\c1<c2,-c2<=c5/\c5<c2,(0:Int)<=c5/\c5<=c5/\c5<=2^47/\c5*(↑(56:Nat):Int)<=2^47] (leaf normal ([ak 3 (m+1) fun i=>rat (p i) ah,ak 3 (n+1) fun i=>rat (q i) ah,int i64 c4,int i64 c3,own 73728 3 0 c5.toNat,int i64 0],[(73728,ay.mk true true 3 c5.toNat fun x=>rat 0 1)])))))):=ag
theorem WO {m n i:Nat} {p q x:Nat->Rat}:aH T nM [30] 60 qN (before wg [1,0]) ⟨aD qN (yd m n p q i),mP m n x,1⟩=
  let c1:List AV×aE:=([ak 3 (m+1) fun i=>rat (p i) ah,ak 3 (n+1) fun i=>rat (q i) ah,int i64 (↑m:Int),int i64 (↑n:Int),own 0 3 0 (m+n+1),int i64 (↑i:Int)],[(0,ay.mk true true 3 (m+n+1) fun i=>rat (x i) ah)]);some (fork (decide ((↑i:Int)<=(↑m:Int))) (leaf normal c1) (leaf (exit 0) c1)):=ag
theorem acg {m n i:Nat} {p q x:Nat->Rat}:aH T nM [] 60 vF (before wK [1]) ⟨aD qN (yd m n p q i),mP m n x,1⟩=
  some (leaf normal ([ak 3 (m+1) fun i=>rat (p i) ah,ak 3 (n+1) fun i=>rat (q i) ah,int i64 (↑m:Int),int i64 (↑n:Int),own 0 3 0 (m+n+1),int i64 (↑i:Int),int i64 0],[(0,ay.mk true true 3 (m+n+1) fun i=>rat (x i) ah)])):=ag
theorem Pd {m n i j:Nat} {p q x:Nat->Rat}:aH T nM [35] 60 vF [part wK [1,0,0]] ⟨aD vF (Co m n p q i j),mP m n x,1⟩=
  let c13:Int:=(↑m:Int);let c11:Nat:=64+64;let c10:Int:=(↑n:Int);let c9:Int:=(↑i:Int);let c8:AV:=ak 3 (n+1) fun i=>rat (q i) ah;let c7:AV:=ak 3 (m+1) fun i=>rat (p i) ah;let c5:Int:=(↑j:Int);let c4:Int:=(2:Int)^63;let c3:Nat:=m+n+1;let c2:Nat:=2^41;let c15:Int:=c5+1;let c12:AV:=own 0 3 0 c3;let c1:Int:=c9+c5;let c14:Prop:=(0:Int)<=c1/\c1.toNat<c3;let c6:Nat:=c1.toNat+0;some (fork (decide (c5<=c10)) (aj [(0:Int)<=c9,c9<=c13,c13<=40,(0:Int)<=c5,c5<=c10,c10<=40,(64:Nat)<c2,(64:Nat)<c2,(0:Nat)<1] (aj [-c4<=c1/\c1<c4,-c4<=c1/\c1<c4,c14,c6<c3,(0:Nat)<1,(0:Int)<=c9/\c9.toNat<m+1,(0:Int)<=c5/\c5.toNat<n+1,ah<c2,ah<c2,c11<c2,ah+ah<c2,ah<c2,c11+(ah+ah)<c2,c14,c6<c3] (aj [-c4<=c15/\c15<c4] (leaf normal ([c7,c8,int i64 c13,int i64 c10,c12,int i64 c9,int i64 c15],[(0,ay.mk true true 3 c3 fun j=>rat (bif j==c6 then x c6+(↑(↑(bn c13.toNat c9.toNat):Int):Rat)*(↑(↑(bn c10.toNat c5.toNat):Int):Rat)*(p c9.toNat*q c5.toNat)else x j) (bif j==c6 then ah+(c11+(ah+ah))+1 else ah))]))))) (leaf (exit 2) ([c7,c8,int i64 c13,int i64 c10,c12,int i64 c9,int i64 c5],[(0,ay.mk true true 3 c3 fun i=>rat (x i) ah)]))):=ag
theorem acP {m n i j:Nat} {p q x:Nat->Rat}:aH T nM [] 60 qN (behind wK [1]++[part wg [1,1]]) ⟨aD vF (Co m n p q i j),mP m n x,1⟩=
  let c1:Int:=(↑i:Int)+1;some (aj [-(2:Int)^63<=c1/\c1<2^63] (leaf normal ([ak 3 (m+1) fun i=>rat (p i) ah,ak 3 (n+1) fun i=>rat (q i) ah,int i64 (↑m:Int),int i64 (↑n:Int),own 0 3 0 (m+n+1),int i64 c1],[(0,ay.mk true true 3 (m+n+1) fun i=>rat (x i) ah)]))):=ag
theorem abi {m n i:Nat} {p q x:Nat->Rat}:aH T nM [] 60 vT (before qI [0,1]) ⟨aD qN (yd m n p q i),mP m n x,1⟩=
  some (leaf normal ([int i64 (↑m:Int),int i64 (↑n:Int),own 0 3 0 (m+n+1),int i64 0],[(0,ay.mk true true 3 (m+n+1) fun i=>rat (x i) ah)])):=ag
theorem aaq {m n k:Nat} {x:Nat->Rat}:aH T nM [72] 60 vT [part qI [0,1,0,0]] ⟨aD vT (BY m n k),mP m n x,1⟩=
  let c4:Int:=(2:Int)^63;let c3:Nat:=m+n+1;let c2:Int:=(↑k:Int);let c1:Int:=(↑m:Int)+(↑n:Int);let c8:Int:=c2+1;let c7:Prop:=(0:Int)<=c2/\c2.toNat<c3;let c6:AV:=own 0 3 0 c3;let c5:Nat:=c2.toNat+0;some (aj [-c4<=c1/\c1<c4] (fork (decide (c2<=c1)) (aj [c7,c5<c3,-c4<=c1/\c1<c4,(0:Int)<=c2,c2<=c1,c1<=40,ah<2^41,(64:Nat)<2^41,c7,c5<c3] (aj [-c4<=c8/\c8<c4] (leaf normal ([int i64 (↑m:Int),int i64 (↑n:Int),c6,int i64 c8],[(0,ay.mk true true 3 c3 fun j=>rat (bif j==c5 then x c5/(↑(↑(bn c1.toNat c2.toNat):Int):Rat)else x j) (bif j==c5 then ah+64 else ah))])))) (leaf (exit 4) ([int i64 (↑m:Int),int i64 (↑n:Int),c6,int i64 c2],[(0,ay.mk true true 3 c3 fun i=>rat (x i) ah)])))):=ag
theorem Zf {m n k:Nat} {x:Nat->Rat}:cN T nM [] 60 f31 [part qI [1]] ⟨aD vT (BY m n k),mP m n x,1⟩=
  some (leaf ret [ak 3 (m+n+1) fun i=>rat (x (i+0)) ah,int i64 0]):=ag
theorem C5:bK P nM:=gT (aK D9 (aK (jC fun _ _ K hn=>Kp hn.1 hn.2 K) kO))
def kn (m n:Nat) (p q:Nat->Rat) (i j k:Nat):Rat:=sg (fun i=>sg (fun j=>if i+j=k then bq m i*p i*(bq n j*q j)else 0) (n+1)) i+sg (fun j=>if i+j=k then bq m i*p i*(bq n j*q j)else 0) j
theorem UL {m n i k:Nat} {p q:Nat->Rat}:kn m n p q i (n+1) k=kn m n p q (i+1) 0 k:=(Rat.add_zero _).symm
theorem X8 {m n i j:Nat} {p q:Nat->Rat}:kn m n p q i j (i+j)+bq m i*bq n j*(p i*q j)=kn m n p q i (j+1) (i+j):=by
 unfold kn
 show _=_+(sg _ j+(if i+j=i+j then bq m i*p i*(bq n j*q j)else 0))
 rw[if_pos rfl];grind
theorem abp {m n i j k:Nat} {p q:Nat->Rat} (h:k≠i+j):kn m n p q i j k=kn m n p q i (j+1) k:=by
 unfold kn
 show _=_+(sg _ j+(if i+j=k then bq m i*p i*(bq n j*q j)else 0))
 rw[if_neg (fun e=>h e.symm),Rat.add_zero]
theorem ZT {m n k:Nat} {p q:Nat->Rat}:kn m n p q (m+1) 0 k/bq (m+n) k=jD m n p q k:=by
 unfold jD
 rw[show kn m n p q (m+1) 0 k=jv m n (fun i=>bq m i*p i) (fun j=>bq n j*q j) k from Rat.add_zero _]
def nS (m n:Nat) (p q:Nat->Rat) (k t:Nat):Rat:=if t<k then jD m n p q t else kn m n p q (m+1) 0 t
theorem Cu {m n k t:Nat} {p q:Nat->Rat} (h:t<k):nS m n p q k t=jD m n p q t:=if_pos h
theorem TU {m n k:Nat} {p q:Nat->Rat}:nS m n p q k k/bq (m+n) k=nS m n p q (k+1) k:=by
 rw[Cu (Nat.lt_succ_self _)];unfold nS;rw[if_neg (Nat.lt_irrefl _)];exact ZT
theorem XJ {m n k t:Nat} {p q:Nat->Rat} (h:t≠k):nS m n p q k t=nS m n p q (k+1) t:=by
 unfold nS
 by_cases h3:t<k
 ·rw[if_pos h3,if_pos aa]
 ·rw[if_neg h3,if_neg aa]
def yg (m n:Nat) (p q:Nat->Rat):Prop:=(∀i j k,i<=m+1->j<=n+1->k<m+n+1->Sz (kn m n p q i j k) ah)/\∀k,k<m+n+1->Sz (jD m n p q k) ah
theorem MW {m n:Nat} {p q:Nat->Rat} (hmn:m+n<=40) (hz:yg m n p q) (K:Nat):aO P 31 K [aZ p (m+1) ah,aZ q (n+1) ah] [] (aJ (.tuple [aZ (jD m n p q) (m+n+1) ah,.int .i64 0]) []):=by
 refine ij (r:=aJ (.tuple [aZ (jD m n p q) (m+n+1) ah,.int .i64 0]) []) hT Ge rfl aW rfl (fun _ cx h0=>?_) K []
 have hk:=mO h0
 have hW:=dg
 refine au.qJ hT C5 hm (x:=zM) [1,1,1,1,0,1] (i:=0) (y:=wg) (z:=qI) ag ag ag Ge.dst [1,0] (j:=1) (x1:=wK) (zb:=part wg [1,1]) ag ag ag [1] (i2:=2) (y2:=part wK [1,0,0]) ag ag rfl hk
  (f1:=[200022]) (f2:=[30]) (f3:=[]) (f4:=[35]) (f5:=[]) 60 qN vF 1 1 (fun i:Nat=>yd m n p q i) (fun i=>mP m n (kn m n p q i 0)) (fun i=>i<=m+1) (fun i=>i=m+1) (fun i=>m+1-i) (fun i=>i<m+1) (fun _=>False) (fun _=>False)
  (fun i (j:Nat)=>Co m n p q i j) (fun i j=>mP m n (kn m n p q i j)) (fun _ j=>j<=n+1) (fun _ j=>j=n+1) (fun _ j=>n+1-j)
  ⟨_,adj,?_⟩ (fun i hi=>⟨_,WO,?_⟩) (fun i hi hG=>⟨_,acg,?_⟩) (fun i hi hG j hj=>⟨_,Pd,?_⟩) (fun i hi hG j hj=>⟨_,acP,?_⟩) (fun i hi=>?_) (fun _ _ h=>h.elim) (fun _ _ h=>h.elim)
 ·have e1:((m+1:Nat):Int)-1=(m:Nat):=aa
  have e2:((n+1:Nat):Int)-1=(n:Nat):=aa
  have e3:((m:Int)+(n:Int)+1).toNat=m+n+1:=aa
  simp only[af.all,az,e1,e2,e3,bE]
  exact⟨aa,aa,aa,aa,0,Nat.zero_le _,[(0,73728)],rfl,rfl,rfl,bw rfl rfl rfl (fun k hk=>.inr ⟨rfl,cY (by show(0:Rat)=0+0;rw[Rat.add_zero]) aa⟩) trivial⟩
 ·simp only[af.all,az,bz,bE]
  exact⟨fun h=>⟨aa,[(0,0)],rfl,rfl,rfl,bw rfl rfl rfl (fun i hi=>bP rfl rfl) trivial⟩,fun h=>⟨rfl,i,aa,[(0,0)],rfl,rfl,rfl,bw rfl rfl rfl (fun i hi=>bP rfl rfl) trivial⟩⟩
 ·simp only[af.all,az]
  exact⟨0,Nat.zero_le _,[(0,0)],rfl,rfl,rfl,bw rfl rfl rfl (fun i hi=>bP rfl rfl) trivial⟩
 ·have e1:((i:Int)+(j:Int)).toNat=i+j:=aa
  simp only[af.all,az,e1,bz,bE,bu,Nat.add_zero]
  refine⟨fun h=>⟨⟨aa,aa,aa,aa,aa,aa,aa,aa,aa⟩,⟨aa,aa,aa,aa,aa,aa,aa,aa,aa,aa,aa,aa,aa,aa,aa⟩,aa,j+1,aa,by dsimp only;omega,[(0,0)],rfl,by rw[show(j:Int)+1=((j+1:Nat):Int) by omega];rfl,rfl,bw rfl rfl rfl (fun k hk=>lf (ee X8 (hz.1 i (j+1) _ aa aa aa)) fun hne=>cY (abp hne) aQ) trivial⟩,
   fun h=>⟨rfl,j,aa,[(0,0)],rfl,rfl,rfl,bw rfl rfl rfl (fun i hi=>bP rfl rfl) trivial⟩⟩
 ·subst hj
  simp only[af.all,az]
  exact⟨aa,i+1,aa,by dsimp only;omega,[(0,0)],rfl,by rw[show(i:Int)+1=((i+1:Nat):Int) by omega];rfl,rfl,bw rfl rfl rfl (fun k hk=>bP rfl (by rw[UL])) trivial⟩
 ·subst hi
  refine au.oN hT C5 hm (x:=qI) [0,1] (i:=4) (y:=part qI [0,1,0,0]) (z:=part qI [1]) ag ag ag ag hk (f1:=[]) (f2:=[72]) 60 vT 1 (fun k:Nat=>BY m n k) (fun k=>mP m n (nS m n p q k))
   (fun k=>k<=m+n+1) (fun k=>k=m+n+1) (fun k=>m+n+1-k) (fun _=>False) ⟨_,abi,?_⟩ (fun k hk=>⟨_,aaq,?_⟩) (fun k hk=>?_) (fun _ _ h=>h.elim)
  ·simp only[af.all,az]
   exact⟨0,Nat.zero_le _,[(0,0)],rfl,rfl,rfl,bw rfl rfl rfl (fun i hi=>bP rfl rfl) trivial⟩
  ·have e1:((m:Int)+(n:Int)).toNat=m+n:=aa
   simp only[af.all,az,e1,bz,bE,bu,Nat.add_zero]
   refine⟨aa,fun h=>⟨⟨aa,aa,aa,aa,aa,aa,aa,aa,aa,aa⟩,aa,k+1,aa,by dsimp only;omega,[(0,0)],rfl,by rw[show(k:Int)+1=((k+1:Nat):Int) by omega];rfl,rfl,bw rfl rfl rfl (fun t ht=>lf (y:=nS m n p q (k+1)) (ee TU (by rw[Cu (Nat.lt_succ_self _)];exact hz.2 k aa)) fun hne=>cY (XJ hne) aQ) trivial⟩,
    fun h=>⟨rfl,k,aa,[(0,0)],rfl,rfl,rfl,bw rfl rfl rfl (fun i hi=>bP rfl rfl) trivial⟩⟩
  ·subst hk
   refine au.lU ((aF.fin hT C5 hm 60 Zf ag ?_).mono fun _ _ h=>.inl h)
   exact⟨gi fun i hi=>cY (by rw[Nat.add_zero];exact Cu hi) aQ,.refl _,trivial⟩
def JS:Spec:=dL (kC (kL ah) (kC (kL ah) kN)) (fun a=>.tuple [aZ (jD (a.1.1-1) (a.2.1.1-1) a.1.2 a.2.1.2) (a.1.1-1+(a.2.1.1-1)+1) ah,.int .i64 0]) fun a=>[1<=a.1.1,1<=a.2.1.1,a.1.1+a.2.1.1<=42,yg (a.1.1-1) (a.2.1.1-1) a.1.2 a.2.1.2]
theorem ZI:bf P JS 31:=dF fun⟨⟨m,p⟩,⟨n,q⟩,_⟩ K hn=>by
 obtain⟨h1,h2,h3,h4⟩:=hn
 have h1:1<=m:=h1
 have h2:1<=n:=h2
 have h3:m+n<=42:=h3
 obtain⟨m,rfl⟩:∃x,m=x+1:=⟨m-1,aa⟩
 obtain⟨n,rfl⟩:∃x,n=x+1:=⟨n-1,aa⟩
 exact MW aa h4 K
def xK:bg:=nG::(44,kW ur)::(87,kW DQ)::[]
abbrev u7:Code:=aG f28
abbrev vj:List Nat:=[0,5,6]
abbrev Aj (j:Nat) (t:Int):List AV:=[.ptr 0 0 2 0 [],.own 1 3 0 j,.int .i64 t]
abbrev Ee (n:Nat) (z:Nat->Int) (a:Int) (k:Nat->Rat) (j:Nat):aE:=[(1,cF j k 64),(0,nB n z a)]
def zZ:bg:=nG::(96,Cn)::ki
abbrev tY:Code:=aG f55
abbrev wh:List Nat:=[0,3,4]
abbrev Ed (n:Nat) (z:Nat->Int) (i:Nat):List AV:=[.ak 1 n fun i=>.int .i64 (z i),.own 0 3 0 i,.int .i64 i]
theorem MX:aX 28 f28:=aY func28
theorem UB:aX 55 f55:=aY func55
theorem Zh {n:Nat} {z:Nat->Int} {a d:Int}:aH T xK [] 60 vj (before u7 [1,1,0,1]) ⟨aS 0 [.ptr 0 0 2 0 [],.int .i64 d],[(0,nB n z a)],1⟩=
  let c1:Int:=d+1;some (aj [-(2:Int)^63<=c1/\c1<2^63,cL n (fun i=>int i64 (z i)) a,(0:Int)<c1,c1<2^62] (leaf normal ([ptr 0 0 2 0 [],nil,int i64 (cz n (fun i=>int i64 (z i)) a c1)],[(0,ay.mk false true 2 1 fun x=>agg [ak 1 n fun i=>int i64 (z i),int i64 (bA n a)])]))):=ag
theorem O0 {n j:Nat} {z:Nat->Int} {a t:Int} {k:Nat->Rat}:aH T xK [12] 60 vj [part u7 [1,1,0,1,0,0]] ⟨aD vj (Aj j t),Ee n z a k j,2⟩=
  let c2:AV:=ak 1 n fun i=>int i64 (z i);let c1:AV:=ptr 0 0 2 0 [];some (fork (decide (t>=0)) (aj [cL n (fun i=>int i64 (z i)) a,(1:Nat)*3<=2^24,(j+1)*((56:Nat)+1)*2<=2^47] (aj [-(2:Int)^63<=t-1/\t-1<(2:Int)^63] (leaf normal ([c1,own 24578 3 0 (j+1),int i64 (t-1)],[(24578,ay.mk true true 3 (j+1) fun i=>if i<j then rat (k i) 64 else nth [rat (rC n (fun i=>int i64 (z i)) a) 64] (rat 0 1) (i-j+0)),(0,ay.mk false true 2 1 fun x=>agg [c2,int i64 (mq n (fun i=>int i64 (z i)) a)])])))) (leaf (exit 0) ([c1,own 1 3 0 j,int i64 t],[(1,ay.mk true true 3 j fun i=>rat (k i) 64),(0,ay.mk false true 2 1 fun x=>agg [c2,int i64 a])]))):=ag
theorem P5 {n j:Nat} {z:Nat->Int} {a t:Int} {k:Nat->Rat}:yW T xK [] 60 f28 [part u7 [1,1,1]] ⟨aD vj (Aj j t),Ee n z a k j,2⟩=
  some (leaf ret ([ak 3 j fun i=>rat (k (i+0)) 64],some (ay.mk false true 2 1 fun x=>agg [ak 1 n fun i=>int i64 (z i),int i64 a]))):=ag
theorem abc {n:Nat} {z:Nat->Int}:aH T zZ [] 60 wh (before tY [1,1,0,1]) ⟨aS 0 [.ak 1 n fun i=>.int .i64 (z i)],[],0⟩=
  some (leaf normal ([ak 1 n fun i=>int i64 (z i),nil,int i64 0],[])):=ag
theorem Y3 {n i:Nat} {z:Nat->Int} {k:Nat->Rat}:aH T zZ [10] 60 wh [part tY [1,1,0,1,0,0]] ⟨aD wh (Ed n z i),[(0,cF i k 64)],1⟩=
  let c3:AV:=ak 1 n fun i=>int i64 (z i);let c2:Int:=(2:Int)^63;let c1:Int:=(↑i:Int);let c5:Int:=z c1.toNat;let c4:Int:=c1+1;some (fork (decide (c1<(↑n:Int))) (aj [(0:Int)<=c1/\c1.toNat<n,-c2<=c5,c5<c2,(1:Nat)*3<=2^24,(i+1)*((56:Nat)+1)*2<=2^47] (aj [-c2<=c4/\c4<c2] (leaf normal ([c3,own 45057 3 0 (i+1),int i64 c4],[(45057,ay.mk true true 3 (i+1) fun i_1=>if i_1<i then rat (k i_1) 64 else nth [rat (↑c5:Rat) (Max.max 1 (bI c5.natAbs))] (rat 0 1) (i_1-i+0))])))) (leaf (exit 0) ([c3,own 0 3 0 i,int i64 c1],[(0,ay.mk true true 3 i fun i=>rat (k i) 64)]))):=ag
theorem Q6 {n i:Nat} {z:Nat->Int} {k:Nat->Rat}:cN T zZ [] 60 f55 [part tY [1,1,1]] ⟨aD wh (Ed n z i),[(0,cF i k 64)],1⟩=
  some (aj [dc (fun i=>.rat (k (i+0)) 64) i ah,(1:Nat)<=i,i<=41,iT i fun i=>aU (.rat (k (i+0)) 64)] (leaf ret [aZ (ec i fun i=>aU (.rat (k (i+0)) 64)) i ah])):=ag
theorem Gp {rl:List (Nat×Nat)} {l i s s' s2:Nat} {x y:Nat->Rat} {t:Rat} {z:AV} (hx:∀i,i<l->x i=y i) (ht:bB (.rat t s') (.rat (y l) s2)) (h1:s<=s2) (hi:i<l+1):oK rl (if i<l then .rat (x i) s else nth [.rat t s'] z (i-l+0)) (.rat (y i) s2):=by
 by_cases h:i<l
 ·rw[if_pos h,hx i h];exact .inr ⟨rfl,cY rfl h1⟩
 ·obtain rfl:i=l:=aa
  rw[if_neg h,Nat.sub_self]
  exact .inr ⟨rfl,ht⟩
def ux (n:Nat) (f:Nat->AV) (a:Int):Nat->Int
 |0=>a
 |j+1=>mq n f (ux n f a j)
theorem cL.numbers {n:Nat} {f:Nat->AV} {a:Int} (h:cL n f a):∀j,cL n f (ux n f a j)
 |0=>h
 |j+1=>(h.numbers j).number
def mI (n:Nat) (f:Nat->AV) (a d:Int):Nat:=(cz n f a (d+1)).toNat+1
def oA (n:Nat) (f:Nat->AV) (a:Int) (i:Nat):Rat:=rC n f (ux n f (bA n a) i)
def p6 (n:Nat) (f:Nat->AV) (a d:Int):Int:=ux n f (bA n a) (mI n f a d)
def ze (n:Nat) (f:Nat->AV) (a:Int) (l:List AV):Option (AV×Int×List Prop):=match l with
 |[.int .i64 d]=>some (aZ (oA n f a) (mI n f a d) 64,p6 n f a d,[0<=d,d<900])
 |_=>none
theorem MS:bK P xK:=gW (aK CP (aK XY bU))
theorem aal {k n:Nat} {z:Nat->Int} {a d:Int} {o:ay} (ho:∀ρ,cW ρ o (nB n z a)) (h:cL n (fun i=>.int .i64 (z i)) a) (hd1:0<=d) (hd2:d<900) (K:Nat):
  aO P 28 K [.ptr k 0 2 0 [],.int .i64 d] [(k,o)] ⟨aZ (oA n (fun i=>.int .i64 (z i)) a) (mI n (fun i=>.int .i64 (z i)) a d) 64,[(k,nB n z (p6 n (fun i=>.int .i64 (z i)) a d))],[]⟩:=by
 refine E2 hT MX rfl rfl aW ho (fun _ c hk=>?_) K
 have a1:=iY (n:=n) (f:=fun i=>.int .i64 (z i)) (a:=a) (m:=d+1) aa
 have a2:=ja (n:=n) (f:=fun i=>.int .i64 (z i)) (a:=a) (m:=d+1) aa
 unfold p6
 obtain⟨N,hN⟩:∃N,N=mI n (fun i=>.int .i64 (z i)) a d:=⟨_,rfl⟩
 have hN2:cz n (fun i=>.int .i64 (z i)) a (d+1)=(N:Int)-1:=by rw[hN];unfold mI;omega
 rw[<-hN]
 refine au.oN hT MS hm [1,1,0,1] (i:=0) (y:=part u7 [1,1,0,1,0,0]) (z:=part u7 [1,1,1]) ag ag ag MX.dst hk (f1:=[]) (f2:=[12]) 60 vj 2 (fun j:Nat=>Aj j ((N:Int)-1-j))
  (fun j=>Ee n z (ux n (fun i=>.int .i64 (z i)) (bA n a) j) (oA n (fun i=>.int .i64 (z i)) a) j) (fun j=>j<=N) (fun j=>j=N) (fun j=>N-j) (fun _=>False) ⟨_,Zh,?_⟩ (fun j hj=>⟨_,O0,?_⟩) (fun j hj=>?_) (fun _ _ h=>h.elim)
 ·simp only[af.all,az,hN2]
  exact⟨⟨aa,h,aa,aa⟩,0,Nat.zero_le _,[(0,0)],rfl,by show _=List.map (kr [(0,0)]) (Aj 0 ((N:Int)-1-((0:Nat):Int)));rw[show(N:Int)-1-((0:Nat):Int)=N-1 by omega];rfl,rfl,rG rfl aa aa (dU trivial)⟩
 ·simp only[af.all,az,bz,bE]
  refine⟨fun h2=>⟨⟨h.next.numbers j,aa,aa⟩,aa,j+1,aa,by dsimp only;omega,[(0,0),(1,24578)],rfl,by rw[show(N:Int)-1-(j:Int)-1=(N:Int)-1-((j+1:Nat):Int) by omega];rfl,rfl,
   bw rfl rfl rfl (fun i hi=>Gp (fun _ _=>rfl) (.refl _) aQ hi) (dU trivial)⟩,
   fun h2=>⟨rfl,j,aa,[(0,0),(1,1)],rfl,rfl,rfl,mz (dU trivial)⟩⟩
 ·subst hj
  refine au.lU (aF.Gb hT MS hm 60 P5 ag ?_)
  simp only[af.all,az]
  exact⟨.refl _,_,rfl,rfl,sw rfl rfl⟩
theorem LG:bf P (kW ze) 28:=by
 refine zS fun {k n z a l v b q o} K hg ho hd hq=>?_
 unfold ze at hg
 split at hg
 ·rename_i d
  simp only[ax,Prod.mk.injEq]at hg
  obtain⟨rfl,rfl,rfl⟩:=hg
  exact aal ho hd hq.1 hq.2 K
 ·simp at hg
theorem V8:bK P zZ:=gW (aK GO kO)
def dQ (z:Nat->Int) (i:Nat):Rat:=(z i:Int)
theorem En {n:Nat} {z:Nat->Int} (h1:1<=n) (h2:n<=41) (hz:∀i,i<n->-2^62<=z i/\z i<2^62) (hf:iT n (dQ z)) (K:Nat):aO P 55 K [.ak 1 n fun i=>.int .i64 (z i)] [] (aJ (aZ (ec n (dQ z)) n ah) []):=by
 have hW:=dg
 refine kg (r:=aJ (aZ (ec n (dQ z)) n ah) []) hT V8 hm UB rfl aW rfl [1,1,0,1] (i:=0) (y:=part tY [1,1,0,1,0,0]) (z:=part tY [1,1,1]) ag ag ag (f1:=[]) (f2:=[10]) (f3:=[]) 60 wh 1
  (fun i:Nat=>Ed n z i) (fun i=>[(0,cF i (dQ z) 64)]) (fun i=>i<=n) (fun i=>i=n) (fun i=>n-i) (fun _=>⟨⟨_,abc,?_⟩,fun i hi=>⟨_,Y3,?_⟩,fun i hi=>⟨_,Q6,?_⟩⟩) K []
 ·simp only[af.all,az]
  exact⟨0,Nat.zero_le _,[],rfl,rfl,rfl,rG rfl aa aa trivial⟩
 ·simp only[af.all,az,bz,bE,bu]
  refine⟨fun h=>⟨⟨aa,by have:=hz i aa;omega,by have:=hz i aa;omega,aa,aa⟩,aa,i+1,aa,by dsimp only;omega,[(0,45057)],rfl,by rw[show(i:Int)+1=((i+1:Nat):Int) by omega];rfl,rfl,bw rfl rfl rfl (fun j hj=>Gp (fun _ _=>rfl) (ee rfl (zX (y:=0) (by have:=hz i aa;omega) (by have:=hz i aa;omega))) aQ hj) trivial⟩,
   fun h=>⟨rfl,i,aa,[(0,0)],rfl,rfl,rfl,mz trivial⟩⟩
 ·subst hi
  simp only[af.all,az]
  exact⟨⟨cZ aa,h1,h2,hf⟩,.refl _⟩
end Go.Am.B
