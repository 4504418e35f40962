/- rational.add, Add, Sub, Mul, Quo. -/
import Derived.Test.YtnniljlepppdpaaGreatB19
set_option linter.unusedVariables false
namespace Go.Am.B
open Go Go.Am.N AV
theorem Tg {b:Bool} {N D k:Nat} (hk:k≠0):sQ b (N*k) (D*k)=sQ b N D:=by
 unfold sQ
 have:gq b (N*k)=gq b N*(k:Int):=by unfold gq;split<;>simp[Int.neg_mul]
 rw[this,Rat.mkRat_mul_right hk]
theorem Is {a c:Int} {d:Nat} (hd:d≠0):mkRat a d+mkRat c d=mkRat (a+c) d:=by
 rw[Rat.mkRat_add_mkRat _ _ hd hd,<-Int.add_mul,Rat.mkRat_mul_right hd]
theorem HN {s:Bool} {X Y D:Nat} (hD:D≠0):sQ s X D+sQ s Y D=sQ s (X+Y) D:=by
 unfold sQ
 rw[Is hD]
 congr 1
 unfold gq;split<;>simp<;>omega
theorem LP {b s:Bool} {X Y D:Nat} (hD:D≠0) (hb:b≠s) (h:Y<=X):sQ b X D+sQ s Y D=sQ b (X-Y) D:=by
 unfold sQ
 rw[Is hD]
 congr 1
 unfold gq
 cases b<;>cases s<;>simp at hb ⊢<;>omega
theorem JE {b s:Bool} {X Y D:Nat} (hD:D≠0) (hb:b≠s) (h:X<=Y):sQ b X D+sQ s Y D=sQ s (Y-X) D:=by
 unfold sQ
 rw[Is hD]
 congr 1
 unfold gq
 cases b<;>cases s<;>simp at hb ⊢<;>omega
theorem XB {b s:Bool} {X Y:Nat}:gq b X*gq s Y=gq (b !=s) (X*Y):=by
 unfold gq
 cases b<;>cases s<;>simp[Int.neg_mul,Int.mul_neg]
theorem Mp {b s:Bool} {X Y D E:Nat}:sQ b X D*sQ s Y E=sQ (b !=s) (X*Y) (D*E):=by
 unfold sQ
 rw[Rat.mkRat_mul_mkRat,XB]
theorem qv {q:Rat} (h:eG q=true):q.num.natAbs<4294967296/\q.den<4294967296:=by
 unfold eG at h
 simpa using h
theorem pO {a b:Nat} (ha:a<4294967296) (hb:b<4294967296):IntKind.u64.wrap ((a:Int)*(b:Int))=((a*b:Nat):Int)/\a*b<=18446744065119617025:=by
 have h:=Nat.mul_le_mul (show a<=4294967295 by omega) (show b<=4294967295 by omega)
 refine⟨?_,h⟩
 rw[show(a:Int)*(b:Int)=((a*b:Nat):Int) by simp,cu aa aa]
section add
variable {q r:Rat} {n m:Nat} {s:Bool}
theorem adv {f:Nat->AV} (hf:∀i,i<1->keys (f i)=[]) {b:Bool} {N D:Nat}:iB 8193 (pA b N D r m f):=⟨⟨aa,hf⟩,⟨aa,fun _ _=>rfl⟩,⟨aa,fun _ _=>rfl⟩,trivial⟩
theorem FM:iB 8193 (nK q r n m):=⟨⟨aa,fun _ _=>rfl⟩,⟨aa,fun _ _=>rfl⟩,⟨aa,fun _ _=>rfl⟩,trivial⟩
theorem LC (q r:Rat) (s:Bool):q+sQ s r.num.natAbs r.den=sQ (decide (q<0)) (q.num.natAbs*r.den) (q.den*r.den)+sQ s (r.num.natAbs*q.den) (q.den*r.den):=by
 rw[Tg r.den_nz,lN,Nat.mul_comm q.den,Tg q.den_nz]
theorem M5 {c:Ctx} (h0:∀nx k x,c.k0 k=some x->k<nx) (hq:Sz q n) (hr:Sz r m) (hn:n<2^42) (hm':m<2^42) {s':aK} (hv:bA fk s'=some (iY s,nK q r n m)):
  au P c fX.ntmps nI s' (eo c (Fin T fX (.rat (q+sQ s r.num.natAbs r.den) (n+m+1)))):=by
 obtain⟨a1,a2,a3⟩:=Sz.jR hq aa
 obtain⟨b1,b2,b3⟩:=Sz.jR hr aa
 have d1:=q.den_nz
 have d2:=r.den_nz
 have hz:Sz (q+sQ s r.num.natAbs r.den) (n+m+1):=hq.add (Fy d2 hr.1 hr.2)
 have bx:∀{a b:Nat},a<2^n->b<2^m->nl (a*b)<2^40:=fun ha hb=>jZ (n:=n+m) (by rw[Nat.pow_add];exact Nat.mul_lt_mul'' ha hb) aa
 have last:∀{s':aK} {X Y D k:Nat},k<2^43->X<2^k->Y<2^k->nl D<2^40->D≠0->q+sQ s r.num.natAbs r.den=sQ (decide (q<0)) X D+sQ s Y D->bA (fk++[15,16,17]) s'=some (iY s++[.mag X,.mag Y,.mag D],nK q r n m)->
   aH P c fX.ntmps [part nI [1,1]] s' (eo c (Fin T fX (.rat (q+sQ s r.num.natAbs r.den) (n+m+1)))):=by
  intro s' X Y D k hk hX2 hY2 hD hD0 heq hv
  have hX:=jZ hX2 aa
  have hY:=jZ hY2 aa
  have hXY:nl (X+Y)<2^40:=jZ (n:=k+1) (by rw[Nat.pow_succ];omega) aa
  refine aH.kO hT mN hm 60 hv (h0 _) rfl FM ah0 ag rfl ?_
  simp only[ah.all,aA,beq_iff_eq,beq_eq_false_iff_ne,ne_eq]
  refine⟨aa,fun hb=>⟨⟨hX,hY,hXY,hD,aa⟩,aa,dn ?_ hz⟩,fun hb=>⟨⟨hX,hY⟩,fun hc=>⟨⟨aa,Nat.lt_of_le_of_lt (iH (Nat.sub_le _ _)) hX,hD,aa⟩,aa,dn ?_ hz⟩,fun hc=>⟨⟨hY,hX⟩,⟨Nat.lt_of_le_of_lt (iH (Nat.sub_le _ _)) hY,hD,aa⟩,aa,dn ?_ hz⟩⟩⟩
  ·rw[heq,hb,HN hD0]
  ·rw[heq,LP hD0 hb (by split at hc<;>omega)]
  ·rw[heq,JE hD0 hb (by split at hc<;>omega)]
 have mulb:∀{a b:Nat},a<2^n->b<2^m->a*b<2^(n+m):=fun ha hb=>by rw[Nat.pow_add];exact Nat.mul_lt_mul'' ha hb
 refine au.hole [1,1] ag (aH.fJ hT mN hm 60 hv (h0 _) rfl FM (fk++[15,16,17]) aj5 ag rfl ?_)
 simp only[ah.all,aA,Bool.not_eq_true',bw,Bool.not_eq_false',bq]
 have fin:∀{s':aK} {R:AV},aH P c fX.ntmps [part nI [1,1]] s' (eo c (Fin T fX R))->au P c fX.ntmps (part nI [1,1]) s' (dM (fun s''=>aH P c fX.ntmps (behind nI [1,1]) s'' (eo c (Fin T fX R))) (eo c (Fin T fX R))):=
  fun h=>au.mono h fun e s' h=>by cases e<;>exact h
 refine⟨⟨aa,aa,aa⟩,⟨aa,aa,a3,b3⟩,fun hb=>⟨⟨aa,a1,b2,aa,b1,a2,aa,a2,b2⟩,fun s' hv=>cO (fin (last (k:=n+m) aa (mulb hq.1 hr.2) ?_ (bx hq.2 hr.2) (Nat.mul_ne_zero d1 d2) (LC q r s) hv))⟩,fun hb s' hv=>cO (fin (last (k:=n+m) aa (Nat.lt_of_lt_of_le hq.1 (Nat.pow_le_pow_right aa aa)) (Nat.lt_of_lt_of_le hr.1 (Nat.pow_le_pow_right aa aa)) a2 d1 ?_ hv))⟩
 ·rw[Nat.mul_comm];exact mulb hq.2 hr.1
 ·have:q.den=r.den:=by split at hb<;>split at hb<;>omega
  rw[<-this,lN]
theorem ahW {c:Ctx} (h0:∀nx k x,c.k0 k=some x->k<nx) (hq:Sz q n) (hr:Sz r m) (hn:n<2^42) (hm':m<2^42) (h1:eG q=true) (h2:eG r=true) {s':aK} {Q:ax->aK->Prop}
  (hv:bA (fk++[7,8,10,11]) s'=some (iY s++[.int .u64 (q.num.natAbs:Nat),.int .u64 (q.den:Nat),.int .u64 (r.num.natAbs:Nat),.int .u64 (r.den:Nat)],nK q r n m))
  (hN:∀s',au P c fX.ntmps nI s' (eo c (Fin T fX (.rat (q+sQ s r.num.natAbs r.den) (n+m+1))))->Q .normal s')
  (hR:∀s',eo c (Fin T fX (.rat (q+sQ s r.num.natAbs r.den) (n+m+1))) .ret s'->Q .ret s'):au P c fX.ntmps uU s' Q:=by
 have d1:=q.den_nz
 have d2:=r.den_nz
 have hz:Sz (q+sQ s r.num.natAbs r.den) (n+m+1):=hq.add (Fy d2 hr.1 hr.2)
 obtain⟨q1,q2⟩:=qv h1
 obtain⟨r1,r2⟩:=qv h2
 have hval:=LC q r s
 obtain⟨b,hb⟩:∃b,decide (q<0)=b:=⟨_,rfl⟩
 rw[hb]at hval
 obtain⟨wx,bx⟩:=pO q1 r2
 obtain⟨wy,by'⟩:=pO r1 q2
 obtain⟨wd,bd⟩:=pO q2 r2
 have hd0:q.den*r.den≠0:=Nat.mul_ne_zero d1 d2
 have hk0:c.k0=bE:=by
  funext k
  cases hk:c.k0 k with
  |none=>rfl
  |some x=>have:=h0 0 k x hk;omega
 -- the end by short numbers
 have ret:∀{s':aK} {N D k:Nat} {z:Rat},z=q+sQ s r.num.natAbs r.den->bA fk s'=some (iY s,pA b N D r m fun j=>if j=0 then aV (.rat z k)else .rat 0 1)->Q .ret s':=by
  intro s' N D k z hzv hv
  refine hR _ (AM ad3 hv (h0 8193) rfl (adv fun i _=>?_) ⟨show 0<1 by omega,dn hzv hz⟩)
  split<;>rfl
 have back:∀{s':aK},bA fk s'=some (iY s,pA b q.num.natAbs (if q.den=1 then 0 else q.den) r m fun _=>.rat 0 1)->Q .normal s':=by
  intro s' hv
  refine hN _ (au.jn (dH (vs:=iY s) (ps:=nK q r n m) (nx:=8193) [(0,0),(4096,4096),(8192,8192)] hv hk0 (by simp[iQ]) ⟨aM,⟨rfl,oC rfl⟩,⟨rfl,oC rfl⟩,⟨rfl,oC rfl⟩,trivial⟩
   ⟨⟨_,_,rfl,rfl,jl rfl fun i _=>gm rfl⟩,⟨_,_,rfl,rfl,jl rfl fun i _=>gm rfl⟩,⟨_,_,rfl,rfl,jl rfl fun i _=>mZ rfl ?_⟩,trivial⟩) ?_)
  ·rw[<-hb];exact Ua hq
  ·exact M5 h0 hq hr hn hm' (s:=s) rfl
 refine au.jn (dH (us:=[.bool s,.ptr 0 0 3 0 [],.ptr 4096 0 3 0 [],.ptr 8192 0 3 0 [],.int .u64 (q.num.natAbs:Nat),.int .u64 (q.den:Nat),.int .u64 (r.num.natAbs:Nat),.int .u64 (r.den:Nat)])
   (vs:=[.bool s,.ptr 0 0 3 0 [],.ptr 4096 0 3 0 [],.ptr 8192 0 3 0 [],.int .u64 (q.num.natAbs:Nat),.int .u64 (q.den:Nat),.int .u64 (r.num.natAbs:Nat),.int .u64 (r.den:Nat)]) (os:=nK q r n m) (ps:=pA b q.num.natAbs (if q.den=1 then 0 else q.den) r m fun _=>.rat 0 1) (nx:=8193) [(0,0),(4096,4096),(8192,8192)] hv hk0 (by simp[iQ])
  ⟨aM,⟨rfl,oC rfl⟩,⟨rfl,oC rfl⟩,⟨rfl,oC rfl⟩,aM,aM,aM,aM,trivial⟩
  ⟨⟨_,_,rfl,rfl,jl rfl fun i _=>gm rfl⟩,⟨_,_,rfl,rfl,jl rfl fun i _=>gm rfl⟩,⟨_,_,rfl,rfl,jl rfl fun i _=>mZ rfl (by rw[<-hb];exact PT)⟩,trivial⟩) ?_
 have hD0:0<q.den*r.den:=aa
 have eqc:b=s->sQ s (q.num.natAbs*r.den+r.num.natAbs*q.den) (q.den*r.den)=q+sQ s r.num.natAbs r.den:=fun h=>by rw[hval,h,HN hd0]
 have gec:b≠s->r.num.natAbs*q.den<=q.num.natAbs*r.den->sQ b (q.num.natAbs*r.den-r.num.natAbs*q.den) (q.den*r.den)=q+sQ s r.num.natAbs r.den:=fun h h'=>by rw[hval,LP hd0 h h']
 have ltc:b≠s->q.num.natAbs*r.den<=r.num.natAbs*q.den->sQ s (r.num.natAbs*q.den-q.num.natAbs*r.den) (q.den*r.den)=q+sQ s r.num.natAbs r.den:=fun h h'=>by rw[hval,JE hd0 h h']
 clear hval hv hN hR h1 h2 hb
 generalize q+sQ s r.num.natAbs r.den=V at*
 generalize q.num.natAbs*r.den=X at*
 generalize r.num.natAbs*q.den=Y at*
 generalize q.den*r.den=D at*
 have ws:∀{a b:Nat},b<=a->a<=18446744065119617025->IntKind.u64.wrap ((a:Int)-(b:Int))=((a-b:Nat):Int):=fun {a b} h1 h2=>by rw[cu aa aa];omega
 cases b<;>cases s
 ·refine au.bC hT mN hm 60 fk ag2 ag ?_
  rw[wx,wy,wd]
  simp only[ah.all,aA,beq_iff_eq,bn]
  refine⟨⟨aa,aa,aa⟩,aa,fun hc=>⟨⟨aa,aa,aa⟩,fun s' hv=>ret ?_ hv⟩,fun hc=>⟨aa,aa,fun s' hv=>back hv⟩⟩
  have h:=eq_of_beq (jH hc)
  have e:(((X:Int)+(Y:Int)+0)%18446744073709551616).toNat=X+Y:=aa
  rw[e];exact eqc rfl
 ·refine au.bC hT mN hm 60 fk VP ag ?_
  rw[wx,wy,wd]
  simp only[ah.all,aA,beq_iff_eq,bn]
  refine⟨⟨aa,aa,aa⟩,aa,aa,fun hc=>?_,fun hc=>?_⟩
  ·have h:=of_decide_eq_true (jH hc)
   have h':Y<=X:=aa
   rw[ws h' bx]
   refine⟨⟨aa,aa,aa,aa⟩,fun s' hv=>ret ?_ hv⟩
   rw[bn];exact gec (by simp) h'
  ·have h:=of_decide_eq_false (jH hc)
   have h':X<=Y:=aa
   rw[ws h' by']
   refine⟨aa,⟨aa,aa,aa⟩,fun s' hv=>ret ?_ hv⟩
   rw[bn];exact ltc (by simp) h'
 ·refine au.bC hT mN hm 60 fk aaE ag ?_
  rw[wx,wy,wd]
  simp only[ah.all,aA,beq_iff_eq,bn]
  refine⟨⟨aa,aa,aa⟩,aa,aa,fun hc=>?_,fun hc=>?_⟩
  ·have h:=of_decide_eq_true (jH hc)
   have h':Y<=X:=aa
   rw[ws h' bx]
   refine⟨⟨aa,aa,aa,aa⟩,fun s' hv=>ret ?_ hv⟩
   rw[bn];exact gec (by simp) h'
  ·have h:=of_decide_eq_false (jH hc)
   have h':X<=Y:=aa
   rw[ws h' by']
   refine⟨aa,⟨aa,aa,aa⟩,fun s' hv=>ret ?_ hv⟩
   rw[bn];exact ltc (by simp) h'
 ·refine au.bC hT mN hm 60 fk amd ag ?_
  rw[wx,wy,wd]
  simp only[ah.all,aA,beq_iff_eq,bn]
  refine⟨⟨aa,aa,aa⟩,aa,fun hc=>⟨⟨aa,aa,aa⟩,fun s' hv=>ret ?_ hv⟩,fun hc=>⟨aa,aa,fun s' hv=>back hv⟩⟩
  have h:=eq_of_beq (jH hc)
  have e:(((X:Int)+(Y:Int)+0)%18446744073709551616).toNat=X+Y:=aa
  rw[e];exact eqc rfl
theorem agc (hn:n<2^42) (hm':m<2^42) (K:Nat) (pre:aE):aQ P DT K [.rat q n,.rat r m,.bool s] pre (aJ (.rat (q+sQ s r.num.natAbs r.den) (n+m+1)) []):=by
 refine jV fun⟨hq,hr,_⟩=>?_
 have hq:Sz q n:=hq
 have hr:Sz r m:=hr
 refine fc hT Zy rfl aX rfl (fun _ c h0=>?_) K pre
 have long:=fun {s':aK}=>M5 (s:=s) (s':=s') h0 hq hr hn hm'
 have fin:∀{s':aK} {R:AV},au P c fX.ntmps nI s' (eo c (Fin T fX R))->au P c fX.ntmps nI s' (dM (fun s''=>aH P c fX.ntmps (behind (ay fX) [1,1]) s'' (eo c (Fin T fX R))) (eo c (Fin T fX R))):=
  fun h=>au.mono h fun e s' h=>by cases e<;>exact h
 refine au.hole [1,1] ag (aH.chunk 1 (aH.bC hT mN hm 60 fk alF ag fun s' hv=>cO ?_))
 show aH P c fX.ntmps [Lf] s' _
 refine aH.kK hv (h0 8193) rfl rfl FM ?_
 refine au.hole [1,1] ag (aH.bC hT mN hm 60 (fk++[7,8,28]) Zg ag ⟨show 0<1 by omega,fun s' hv=>cO ?_⟩)
 refine au.cond (b:=.tmp 28) (x:=HV) (y:=.skip) (yg hv rfl rfl) (fun h1=>?_) (fun h1=>au.skip (by exact fin (long (jx (ls:=fk) (l:=[7,8,28]) (vs:=iY s) hv rfl rfl))))
 simp only[h1,if_true]at hv
 have hv:=jx (ls:=fk++[7,8]) (l:=[28]) (vs:=iY s++[.int .u64 (q.num.natAbs:Nat),.int .u64 (q.den:Nat)]) hv rfl rfl
 refine au.kK hv (h0 8193) rfl FM ?_
 refine au.hole [1,1] ag (aH.bC hT mN hm 60 (fk++[7,8,10,11,35]) ab1 ag ⟨show 0<1 by omega,fun s' hv=>cO ?_⟩)
 refine au.cond (b:=.tmp 35) (x:=uU) (y:=.skip) (yg hv rfl rfl) (fun h2=>?_) (fun h2=>au.skip (by exact fin (long (jx (ls:=fk) (l:=[7,8,10,11,35]) (vs:=iY s) hv rfl rfl))))
 simp only[h2,if_true]at hv
 exact ahW h0 hq hr hn hm' h1 h2 (jx (ls:=fk++[7,8,10,11]) (l:=[35]) (vs:=iY s++[.int .u64 (q.num.natAbs:Nat),.int .u64 (q.den:Nat),.int .u64 (r.num.natAbs:Nat),.int .u64 (r.den:Nat)]) hv rfl rfl)
  (fun s' h=>by exact fin h) (fun s' h=>by exact h)
end add
end Go.Am.B
