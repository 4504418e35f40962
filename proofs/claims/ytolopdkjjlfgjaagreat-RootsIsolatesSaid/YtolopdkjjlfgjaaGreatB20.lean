/- rational.add, Add, Sub, Mul, Quo. -/
import Derived.Test.YtolopdkjjlfgjaaGreatB19
set_option linter.unusedVariables false
namespace Go.Am.B
open Go Go.Am.N AV Proofs.Tryz
theorem Kz {b:Bool} {N D k:Nat} (hk:k≠0):sQ b (N*k) (D*k)=sQ b N D:=by
 unfold sQ
 have:ga b (N*k)=ga b N*(k:Int):=by unfold ga;split<;>simp[Int.neg_mul]
 rw[this,Rat.mkRat_mul_right hk]
theorem DX {a c:Int} {d:Nat} (hd:d≠0):mkRat a d+mkRat c d=mkRat (a+c) d:=by
 rw[Rat.mkRat_add_mkRat _ _ hd hd,<-Int.add_mul,Rat.mkRat_mul_right hd]
theorem Dm {s:Bool} {X Y D:Nat} (hD:D≠0):sQ s X D+sQ s Y D=sQ s (X+Y) D:=by
 unfold sQ
 rw[DX hD]
 congr 1
 unfold ga;split<;>simp<;>omega
theorem Hu {b s:Bool} {X Y D:Nat} (hD:D≠0) (hb:b≠s) (h:Y<=X):sQ b X D+sQ s Y D=sQ b (X-Y) D:=by
 unfold sQ
 rw[DX hD]
 congr 1
 unfold ga
 cases b<;>cases s<;>simp at hb ⊢<;>omega
theorem DJ {b s:Bool} {X Y D:Nat} (hD:D≠0) (hb:b≠s) (h:X<=Y):sQ b X D+sQ s Y D=sQ s (Y-X) D:=by
 unfold sQ
 rw[DX hD]
 congr 1
 unfold ga
 cases b<;>cases s<;>simp at hb ⊢<;>omega
theorem abR {b s:Bool} {X Y:Nat}:ga b X*ga s Y=ga (b !=s) (X*Y):=by
 unfold ga
 cases b<;>cases s<;>simp[Int.neg_mul,Int.mul_neg]
theorem Ei {b s:Bool} {X Y D E:Nat}:sQ b X D*sQ s Y E=sQ (b !=s) (X*Y) (D*E):=by
 unfold sQ
 rw[Rat.mkRat_mul_mkRat,abR]
theorem qU {q:Rat} (h:fl q=true):q.num.natAbs<4294967296/\q.den<4294967296:=by
 unfold fl at h
 simpa using h
theorem pX {a b:Nat} (ha:a<4294967296) (hb:b<4294967296):IntKind.u64.wrap ((a:Int)*(b:Int))=((a*b:Nat):Int)/\a*b<=18446744065119617025:=by
 have h:=Nat.mul_le_mul (show a<=4294967295 by omega) (show b<=4294967295 by omega)
 refine⟨?_,h⟩
 rw[show(a:Int)*(b:Int)=((a*b:Nat):Int) by simp,cJ aa aa]
section add
variable {q r:Rat} {n m:Nat} {s:Bool}
theorem Q3 {f:Nat->AV} (hf:∀i,i<1->keys (f i)=[]) {b:Bool} {N D:Nat}:jA 8193 (pN b N D r m f):=⟨⟨aa,hf⟩,⟨aa,fun _ _=>rfl⟩,⟨aa,fun _ _=>rfl⟩,trivial⟩
theorem A0:jA 8193 (oP q r n m):=⟨⟨aa,fun _ _=>rfl⟩,⟨aa,fun _ _=>rfl⟩,⟨aa,fun _ _=>rfl⟩,trivial⟩
theorem Hy (q r:Rat) (s:Bool):q+sQ s r.num.natAbs r.den=sQ (decide (q<0)) (q.num.natAbs*r.den) (q.den*r.den)+sQ s (r.num.natAbs*q.den) (q.den*r.den):=by
 rw[Kz r.den_nz,l7,Nat.mul_comm q.den,Kz q.den_nz]
theorem Ng {c:Ctx} (h0:∀nx k x,c.k0 k=some x->k<nx) (hq:Sz q n) (hr:Sz r m) (hn:n<2^42) (hm':m<2^42) {s':aK} (hv:bA fQ s'=some (jk s,oP q r n m)):
  au P c f164.ntmps nT s' (gq c (Fin T f164 (.rat (q+sQ s r.num.natAbs r.den) (n+m+1)))):=by
 obtain⟨a1,a2,a3⟩:=Sz.kQ hq aa
 obtain⟨b1,b2,b3⟩:=Sz.kQ hr aa
 have d1:=q.den_nz
 have d2:=r.den_nz
 have hz:Sz (q+sQ s r.num.natAbs r.den) (n+m+1):=hq.add (DO d2 hr.1 hr.2)
 have bx:∀{a b:Nat},a<2^n->b<2^m->nl (a*b)<2^40:=fun ha hb=>kS (n:=n+m) (by rw[Nat.pow_add];exact Nat.mul_lt_mul'' ha hb) aa
 have last:∀{s':aK} {X Y D k:Nat},k<2^43->X<2^k->Y<2^k->nl D<2^40->D≠0->q+sQ s r.num.natAbs r.den=sQ (decide (q<0)) X D+sQ s Y D->bA (fQ++[15,16,17]) s'=some (jk s++[.mag X,.mag Y,.mag D],oP q r n m)->
   aF P c f164.ntmps [part nT [1,1]] s' (gq c (Fin T f164 (.rat (q+sQ s r.num.natAbs r.den) (n+m+1)))):=by
  intro s' X Y D k hk hX2 hY2 hD hD0 heq hv
  have hX:=kS hX2 aa
  have hY:=kS hY2 aa
  have hXY:nl (X+Y)<2^40:=kS (n:=k+1) (by rw[Nat.pow_succ];omega) aa
  refine aF.lI hT mT hm 60 hv (h0 _) rfl A0 WZ ah rfl ?_
  simp only[af.all,az,beq_iff_eq,beq_eq_false_iff_ne,ne_eq]
  refine⟨aa,fun hb=>⟨⟨hX,hY,hXY,hD,aa⟩,aa,dY ?_ hz⟩,fun hb=>⟨⟨hX,hY⟩,fun hc=>⟨⟨aa,Nat.lt_of_le_of_lt (jd (Nat.sub_le _ _)) hX,hD,aa⟩,aa,dY ?_ hz⟩,fun hc=>⟨⟨hY,hX⟩,⟨Nat.lt_of_le_of_lt (jd (Nat.sub_le _ _)) hY,hD,aa⟩,aa,dY ?_ hz⟩⟩⟩
  ·rw[heq,hb,Dm hD0]
  ·rw[heq,Hu hD0 hb (by split at hc<;>omega)]
  ·rw[heq,DJ hD0 hb (by split at hc<;>omega)]
 have mulb:∀{a b:Nat},a<2^n->b<2^m->a*b<2^(n+m):=fun ha hb=>by rw[Nat.pow_add];exact Nat.mul_lt_mul'' ha hb
 refine au.hole [1,1] ah (aF.gh hT mT hm 60 hv (h0 _) rfl A0 (fQ++[15,16,17]) T1 ah rfl ?_)
 simp only[af.all,az,Bool.not_eq_true',bI,Bool.not_eq_false',bD]
 have fin:∀{s':aK} {R:AV},aF P c f164.ntmps [part nT [1,1]] s' (gq c (Fin T f164 R))->au P c f164.ntmps (part nT [1,1]) s' (fF (fun s''=>aF P c f164.ntmps (behind nT [1,1]) s'' (gq c (Fin T f164 R))) (gq c (Fin T f164 R))):=
  fun h=>au.mono h fun e s' h=>by cases e<;>exact h
 refine⟨⟨aa,aa,aa⟩,⟨aa,aa,a3,b3⟩,fun hb=>⟨⟨aa,a1,b2,aa,b1,a2,aa,a2,b2⟩,fun s' hv=>cW (fin (last (k:=n+m) aa (mulb hq.1 hr.2) ?_ (bx hq.2 hr.2) (Nat.mul_ne_zero d1 d2) (Hy q r s) hv))⟩,fun hb s' hv=>cW (fin (last (k:=n+m) aa (Nat.lt_of_lt_of_le hq.1 (Nat.pow_le_pow_right aa aa)) (Nat.lt_of_lt_of_le hr.1 (Nat.pow_le_pow_right aa aa)) a2 d1 ?_ hv))⟩
 ·rw[Nat.mul_comm];exact mulb hq.2 hr.1
 ·have:q.den=r.den:=by split at hb<;>split at hb<;>omega
  rw[<-this,l7]
theorem aab {c:Ctx} (h0:∀nx k x,c.k0 k=some x->k<nx) (hq:Sz q n) (hr:Sz r m) (hn:n<2^42) (hm':m<2^42) (h1:fl q=true) (h2:fl r=true) {s':aK} {Q:aq->aK->Prop}
  (hv:bA (fQ++[7,8,10,11]) s'=some (jk s++[.int .u64 (q.num.natAbs:Nat),.int .u64 (q.den:Nat),.int .u64 (r.num.natAbs:Nat),.int .u64 (r.den:Nat)],oP q r n m))
  (hN:∀s',au P c f164.ntmps nT s' (gq c (Fin T f164 (.rat (q+sQ s r.num.natAbs r.den) (n+m+1))))->Q .normal s')
  (hR:∀s',gq c (Fin T f164 (.rat (q+sQ s r.num.natAbs r.den) (n+m+1))) .ret s'->Q .ret s'):au P c f164.ntmps u7 s' Q:=by
 have d1:=q.den_nz
 have d2:=r.den_nz
 have hz:Sz (q+sQ s r.num.natAbs r.den) (n+m+1):=hq.add (DO d2 hr.1 hr.2)
 obtain⟨q1,q2⟩:=qU h1
 obtain⟨r1,r2⟩:=qU h2
 have hval:=Hy q r s
 obtain⟨b,hb⟩:∃b,decide (q<0)=b:=⟨_,rfl⟩
 rw[hb]at hval
 obtain⟨wx,bx⟩:=pX q1 r2
 obtain⟨wy,by'⟩:=pX r1 q2
 obtain⟨wd,bd⟩:=pX q2 r2
 have hd0:q.den*r.den≠0:=Nat.mul_ne_zero d1 d2
 have hk0:c.k0=bE:=by
  funext k
  cases hk:c.k0 k with
  |none=>rfl
  |some x=>have:=h0 0 k x hk;omega
 -- the end by short numbers
 have ret:∀{s':aK} {N D k:Nat} {z:Rat},z=q+sQ s r.num.natAbs r.den->bA fQ s'=some (jk s,pN b N D r m fun j=>if j=0 then eC (.rat z k)else .rat 0 1)->Q .ret s':=by
  intro s' N D k z hzv hv
  refine hR _ (B9 RD hv (h0 8193) rfl (Q3 fun i _=>?_) ⟨show 0<1 by omega,dY hzv hz⟩)
  split<;>rfl
 have back:∀{s':aK},bA fQ s'=some (jk s,pN b q.num.natAbs (if q.den=1 then 0 else q.den) r m fun _=>.rat 0 1)->Q .normal s':=by
  intro s' hv
  refine hN _ (au.nB (eA (vs:=jk s) (ps:=oP q r n m) (nx:=8193) [(0,0),(4096,4096),(8192,8192)] hv hk0 (by simp[iR]) ⟨aP,⟨rfl,iw rfl⟩,⟨rfl,iw rfl⟩,⟨rfl,iw rfl⟩,trivial⟩
   ⟨⟨_,_,rfl,rfl,ia rfl fun i _=>fh rfl⟩,⟨_,_,rfl,rfl,ia rfl fun i _=>fh rfl⟩,⟨_,_,rfl,rfl,ia rfl fun i _=>iS rfl ?_⟩,trivial⟩) ?_)
  ·rw[<-hb];exact KC hq
  ·exact Ng h0 hq hr hn hm' (s:=s) rfl
 refine au.nB (eA (us:=[.bool s,.ptr 0 0 3 0 [],.ptr 4096 0 3 0 [],.ptr 8192 0 3 0 [],.int .u64 (q.num.natAbs:Nat),.int .u64 (q.den:Nat),.int .u64 (r.num.natAbs:Nat),.int .u64 (r.den:Nat)])
   (vs:=[.bool s,.ptr 0 0 3 0 [],.ptr 4096 0 3 0 [],.ptr 8192 0 3 0 [],.int .u64 (q.num.natAbs:Nat),.int .u64 (q.den:Nat),.int .u64 (r.num.natAbs:Nat),.int .u64 (r.den:Nat)]) (os:=oP q r n m) (ps:=pN b q.num.natAbs (if q.den=1 then 0 else q.den) r m fun _=>.rat 0 1) (nx:=8193) [(0,0),(4096,4096),(8192,8192)] hv hk0 (by simp[iR])
  ⟨aP,⟨rfl,iw rfl⟩,⟨rfl,iw rfl⟩,⟨rfl,iw rfl⟩,aP,aP,aP,aP,trivial⟩
  ⟨⟨_,_,rfl,rfl,ia rfl fun i _=>fh rfl⟩,⟨_,_,rfl,rfl,ia rfl fun i _=>fh rfl⟩,⟨_,_,rfl,rfl,ia rfl fun i _=>iS rfl (by rw[<-hb];exact Ox)⟩,trivial⟩) ?_
 have hD0:0<q.den*r.den:=aa
 have eqc:b=s->sQ s (q.num.natAbs*r.den+r.num.natAbs*q.den) (q.den*r.den)=q+sQ s r.num.natAbs r.den:=fun h=>by rw[hval,h,Dm hd0]
 have gec:b≠s->r.num.natAbs*q.den<=q.num.natAbs*r.den->sQ b (q.num.natAbs*r.den-r.num.natAbs*q.den) (q.den*r.den)=q+sQ s r.num.natAbs r.den:=fun h h'=>by rw[hval,Hu hd0 h h']
 have ltc:b≠s->q.num.natAbs*r.den<=r.num.natAbs*q.den->sQ s (r.num.natAbs*q.den-q.num.natAbs*r.den) (q.den*r.den)=q+sQ s r.num.natAbs r.den:=fun h h'=>by rw[hval,DJ hd0 h h']
 clear hval hv hN hR h1 h2 hb
 generalize q+sQ s r.num.natAbs r.den=V at*
 generalize q.num.natAbs*r.den=X at*
 generalize r.num.natAbs*q.den=Y at*
 generalize q.den*r.den=D at*
 have ws:∀{a b:Nat},b<=a->a<=18446744065119617025->IntKind.u64.wrap ((a:Int)-(b:Int))=((a-b:Nat):Int):=fun {a b} h1 h2=>by rw[cJ aa aa];omega
 cases b<;>cases s
 ·refine au.bL hT mT hm 60 fQ UC ah ?_
  rw[wx,wy,wd]
  simp only[af.all,az,beq_iff_eq,bG]
  refine⟨⟨aa,aa,aa⟩,aa,fun hc=>⟨⟨aa,aa,aa⟩,fun s' hv=>ret ?_ hv⟩,fun hc=>⟨aa,aa,fun s' hv=>back hv⟩⟩
  have h:=eq_of_beq (j4 hc)
  have e:(((X:Int)+(Y:Int)+0)%18446744073709551616).toNat=X+Y:=aa
  rw[e];exact eqc rfl
 ·refine au.bL hT mT hm 60 fQ abD ah ?_
  rw[wx,wy,wd]
  simp only[af.all,az,beq_iff_eq,bG]
  refine⟨⟨aa,aa,aa⟩,aa,aa,fun hc=>?_,fun hc=>?_⟩
  ·have h:=of_decide_eq_true (j4 hc)
   have h':Y<=X:=aa
   rw[ws h' bx]
   refine⟨⟨aa,aa,aa,aa⟩,fun s' hv=>ret ?_ hv⟩
   rw[bG];exact gec (by simp) h'
  ·have h:=of_decide_eq_false (j4 hc)
   have h':X<=Y:=aa
   rw[ws h' by']
   refine⟨aa,⟨aa,aa,aa⟩,fun s' hv=>ret ?_ hv⟩
   rw[bG];exact ltc (by simp) h'
 ·refine au.bL hT mT hm 60 fQ afb ah ?_
  rw[wx,wy,wd]
  simp only[af.all,az,beq_iff_eq,bG]
  refine⟨⟨aa,aa,aa⟩,aa,aa,fun hc=>?_,fun hc=>?_⟩
  ·have h:=of_decide_eq_true (j4 hc)
   have h':Y<=X:=aa
   rw[ws h' bx]
   refine⟨⟨aa,aa,aa,aa⟩,fun s' hv=>ret ?_ hv⟩
   rw[bG];exact gec (by simp) h'
  ·have h:=of_decide_eq_false (j4 hc)
   have h':X<=Y:=aa
   rw[ws h' by']
   refine⟨aa,⟨aa,aa,aa⟩,fun s' hv=>ret ?_ hv⟩
   rw[bG];exact ltc (by simp) h'
 ·refine au.bL hT mT hm 60 fQ RL ah ?_
  rw[wx,wy,wd]
  simp only[af.all,az,beq_iff_eq,bG]
  refine⟨⟨aa,aa,aa⟩,aa,fun hc=>⟨⟨aa,aa,aa⟩,fun s' hv=>ret ?_ hv⟩,fun hc=>⟨aa,aa,fun s' hv=>back hv⟩⟩
  have h:=eq_of_beq (j4 hc)
  have e:(((X:Int)+(Y:Int)+0)%18446744073709551616).toNat=X+Y:=aa
  rw[e];exact eqc rfl
theorem Qg (hn:n<2^42) (hm':m<2^42) (K:Nat) (pre:aE):aS P 164 K [.rat q n,.rat r m,.bool s] pre (aM (.rat (q+sQ s r.num.natAbs r.den) (n+m+1)) []):=by
 refine lQ fun⟨hq,hr,_⟩=>?_
 have hq:Sz q n:=hq
 have hr:Sz r m:=hr
 refine iE hT aeI rfl aZ rfl (fun _ c h0=>?_) K pre
 have long:=fun {s':aK}=>Ng (s:=s) (s':=s') h0 hq hr hn hm'
 have fin:∀{s':aK} {R:AV},au P c f164.ntmps nT s' (gq c (Fin T f164 R))->au P c f164.ntmps nT s' (fF (fun s''=>aF P c f164.ntmps (behind (aI f164) [1,1]) s'' (gq c (Fin T f164 R))) (gq c (Fin T f164 R))):=
  fun h=>au.mono h fun e s' h=>by cases e<;>exact h
 refine au.hole [1,1] ah (aF.chunk 1 (aF.bL hT mT hm 60 fQ SD ah fun s' hv=>cW ?_))
 show aF P c f164.ntmps [F7] s' _
 refine aF.kZ hv (h0 8193) rfl rfl A0 ?_
 refine au.hole [1,1] ah (aF.bL hT mT hm 60 (fQ++[7,8,28]) aeH ah ⟨show 0<1 by omega,fun s' hv=>cW ?_⟩)
 refine au.cond (b:=.tmp 28) (x:=Fa) (y:=.skip) (yu hv rfl rfl) (fun h1=>?_) (fun h1=>au.skip (by exact fin (long (kB (ls:=fQ) (l:=[7,8,28]) (vs:=jk s) hv rfl rfl))))
 simp only[h1,if_true]at hv
 have hv:=kB (ls:=fQ++[7,8]) (l:=[28]) (vs:=jk s++[.int .u64 (q.num.natAbs:Nat),.int .u64 (q.den:Nat)]) hv rfl rfl
 refine au.kZ hv (h0 8193) rfl A0 ?_
 refine au.hole [1,1] ah (aF.bL hT mT hm 60 (fQ++[7,8,10,11,35]) Vo ah ⟨show 0<1 by omega,fun s' hv=>cW ?_⟩)
 refine au.cond (b:=.tmp 35) (x:=u7) (y:=.skip) (yu hv rfl rfl) (fun h2=>?_) (fun h2=>au.skip (by exact fin (long (kB (ls:=fQ) (l:=[7,8,10,11,35]) (vs:=jk s) hv rfl rfl))))
 simp only[h2,if_true]at hv
 exact aab h0 hq hr hn hm' h1 h2 (kB (ls:=fQ++[7,8,10,11]) (l:=[35]) (vs:=jk s++[.int .u64 (q.num.natAbs:Nat),.int .u64 (q.den:Nat),.int .u64 (r.num.natAbs:Nat),.int .u64 (r.den:Nat)]) hv rfl rfl)
  (fun s' h=>by exact fin h) (fun s' h=>by exact h)
end add
end Go.Am.B
