/- rational.add, Add, Sub, Mul, Quo. -/
import Derived.Test.YtolopdkjjlfgjaaGreatB19
set_option linter.unusedVariables false
namespace Go.Am.B
open Go Go.Am.N AV Proofs.Tryz
theorem Gl {b:Bool} {N D k:Nat} (hk:k≠0):sQ b (N*k) (D*k)=sQ b N D:=by
 unfold sQ
 have:fK b (N*k)=fK b N*(k:Int):=by unfold fK;split<;>simp[Int.neg_mul]
 rw[this,Rat.mkRat_mul_right hk]
theorem FX {a c:Int} {d:Nat} (hd:d≠0):mkRat a d+mkRat c d=mkRat (a+c) d:=by
 rw[Rat.mkRat_add_mkRat _ _ hd hd,<-Int.add_mul,Rat.mkRat_mul_right hd]
theorem CH {s:Bool} {X Y D:Nat} (hD:D≠0):sQ s X D+sQ s Y D=sQ s (X+Y) D:=by
 unfold sQ
 rw[FX hD]
 congr 1
 unfold fK;split<;>simp<;>omega
theorem DI {b s:Bool} {X Y D:Nat} (hD:D≠0) (hb:b≠s) (h:Y<=X):sQ b X D+sQ s Y D=sQ b (X-Y) D:=by
 unfold sQ
 rw[FX hD]
 congr 1
 unfold fK
 cases b<;>cases s<;>simp at hb ⊢<;>omega
theorem DW {b s:Bool} {X Y D:Nat} (hD:D≠0) (hb:b≠s) (h:X<=Y):sQ b X D+sQ s Y D=sQ s (Y-X) D:=by
 unfold sQ
 rw[FX hD]
 congr 1
 unfold fK
 cases b<;>cases s<;>simp at hb ⊢<;>omega
theorem Wd {b s:Bool} {X Y:Nat}:fK b X*fK s Y=fK (b !=s) (X*Y):=by
 unfold fK
 cases b<;>cases s<;>simp[Int.neg_mul,Int.mul_neg]
theorem C9 {b s:Bool} {X Y D E:Nat}:sQ b X D*sQ s Y E=sQ (b !=s) (X*Y) (D*E):=by
 unfold sQ
 rw[Rat.mkRat_mul_mkRat,Wd]
theorem qw {q:Rat} (h:fc q=true):q.num.natAbs<4294967296/\q.den<4294967296:=by
 unfold fc at h
 simpa using h
theorem og {a b:Nat} (ha:a<4294967296) (hb:b<4294967296):IntKind.u64.wrap ((a:Int)*(b:Int))=((a*b:Nat):Int)/\a*b<=18446744065119617025:=by
 have h:=Nat.mul_le_mul (show a<=4294967295 by omega) (show b<=4294967295 by omega)
 refine⟨?_,h⟩
 rw[show(a:Int)*(b:Int)=((a*b:Nat):Int) by simp,cy aa aa]
section add
variable {q r:Rat} {n m:Nat} {s:Bool}
theorem aaR {f:Nat->AV} (hf:∀i,i<1->keys (f i)=[]) {b:Bool} {N D:Nat}:jm 8193 (oX b N D r m f):=⟨⟨aa,hf⟩,⟨aa,fun _ _=>rfl⟩,⟨aa,fun _ _=>rfl⟩,trivial⟩
theorem yS:jm 8193 (nB q r n m):=⟨⟨aa,fun _ _=>rfl⟩,⟨aa,fun _ _=>rfl⟩,⟨aa,fun _ _=>rfl⟩,trivial⟩
theorem ER (q r:Rat) (s:Bool):q+sQ s r.num.natAbs r.den=sQ (decide (q<0)) (q.num.natAbs*r.den) (q.den*r.den)+sQ s (r.num.natAbs*q.den) (q.den*r.den):=by
 rw[Gl r.den_nz,lG,Nat.mul_comm q.den,Gl q.den_nz]
theorem Mi {c:Ctx} (h0:∀nx k x,c.k0 k=some x->k<nx) (hq:Sz q n) (hr:Sz r m) (hn:n<2^42) (hm':m<2^42) {s':aI} (hv:bh fH s'=some (jd s,nB q r n m)):
  au P c f164.ntmps nW s' (gi c (Fin T f164 (.rat (q+sQ s r.num.natAbs r.den) (n+m+1)))):=by
 obtain⟨a1,a2,a3⟩:=Sz.kY hq aa
 obtain⟨b1,b2,b3⟩:=Sz.kY hr aa
 have d1:=q.den_nz
 have d2:=r.den_nz
 have hz:Sz (q+sQ s r.num.natAbs r.den) (n+m+1):=hq.add (Eo d2 hr.1 hr.2)
 have bx:∀{a b:Nat},a<2^n->b<2^m->nl (a*b)<2^40:=fun ha hb=>kG (n:=n+m) (by rw[Nat.pow_add];exact Nat.mul_lt_mul'' ha hb) aa
 have last:∀{s':aI} {X Y D k:Nat},k<2^43->X<2^k->Y<2^k->nl D<2^40->D≠0->q+sQ s r.num.natAbs r.den=sQ (decide (q<0)) X D+sQ s Y D->bh (fH++[15,16,17]) s'=some (jd s++[.mag X,.mag Y,.mag D],nB q r n m)->
   aF P c f164.ntmps [part nW [1,1]] s' (gi c (Fin T f164 (.rat (q+sQ s r.num.natAbs r.den) (n+m+1)))):=by
  intro s' X Y D k hk hX2 hY2 hD hD0 heq hv
  have hX:=kG hX2 aa
  have hY:=kG hY2 aa
  have hXY:nl (X+Y)<2^40:=kG (n:=k+1) (by rw[Nat.pow_succ];omega) aa
  refine aF.kJ hT lU hm 60 hv (h0 _) rfl yS Xw ag rfl ?_
  simp only[af.all,aA,beq_iff_eq,beq_eq_false_iff_ne,ne_eq]
  refine⟨aa,fun hb=>⟨⟨hX,hY,hXY,hD,aa⟩,aa,fj ?_ hz⟩,fun hb=>⟨⟨hX,hY⟩,fun hc=>⟨⟨aa,Nat.lt_of_le_of_lt (iS (Nat.sub_le _ _)) hX,hD,aa⟩,aa,fj ?_ hz⟩,fun hc=>⟨⟨hY,hX⟩,⟨Nat.lt_of_le_of_lt (iS (Nat.sub_le _ _)) hY,hD,aa⟩,aa,fj ?_ hz⟩⟩⟩
  ·rw[heq,hb,CH hD0]
  ·rw[heq,DI hD0 hb (by split at hc<;>omega)]
  ·rw[heq,DW hD0 hb (by split at hc<;>omega)]
 have mulb:∀{a b:Nat},a<2^n->b<2^m->a*b<2^(n+m):=fun ha hb=>by rw[Nat.pow_add];exact Nat.mul_lt_mul'' ha hb
 refine au.hole [1,1] ag (aF.fT hT lU hm 60 hv (h0 _) rfl yS (fH++[15,16,17]) Wg ag rfl ?_)
 simp only[af.all,aA,Bool.not_eq_true',bO,Bool.not_eq_false',bK]
 have fin:∀{s':aI} {R:AV},aF P c f164.ntmps [part nW [1,1]] s' (gi c (Fin T f164 R))->au P c f164.ntmps (part nW [1,1]) s' (fk (fun s''=>aF P c f164.ntmps (behind nW [1,1]) s'' (gi c (Fin T f164 R))) (gi c (Fin T f164 R))):=
  fun h=>au.mono h fun e s' h=>by cases e<;>exact h
 refine⟨⟨aa,aa,aa⟩,⟨aa,aa,a3,b3⟩,fun hb=>⟨⟨aa,a1,b2,aa,b1,a2,aa,a2,b2⟩,fun s' hv=>cM (fin (last (k:=n+m) aa (mulb hq.1 hr.2) ?_ (bx hq.2 hr.2) (Nat.mul_ne_zero d1 d2) (ER q r s) hv))⟩,fun hb s' hv=>cM (fin (last (k:=n+m) aa (Nat.lt_of_lt_of_le hq.1 (Nat.pow_le_pow_right aa aa)) (Nat.lt_of_lt_of_le hr.1 (Nat.pow_le_pow_right aa aa)) a2 d1 ?_ hv))⟩
 ·rw[Nat.mul_comm];exact mulb hq.2 hr.1
 ·have:q.den=r.den:=by split at hb<;>split at hb<;>omega
  rw[<-this,lG]
theorem Yg {c:Ctx} (h0:∀nx k x,c.k0 k=some x->k<nx) (hq:Sz q n) (hr:Sz r m) (hn:n<2^42) (hm':m<2^42) (h1:fc q=true) (h2:fc r=true) {s':aI} {Q:ak->aI->Prop}
  (hv:bh (fH++[7,8,10,11]) s'=some (jd s++[.int .u64 (q.num.natAbs:Nat),.int .u64 (q.den:Nat),.int .u64 (r.num.natAbs:Nat),.int .u64 (r.den:Nat)],nB q r n m))
  (hN:∀s',au P c f164.ntmps nW s' (gi c (Fin T f164 (.rat (q+sQ s r.num.natAbs r.den) (n+m+1))))->Q .normal s')
  (hR:∀s',gi c (Fin T f164 (.rat (q+sQ s r.num.natAbs r.den) (n+m+1))) .ret s'->Q .ret s'):au P c f164.ntmps um s' Q:=by
 have d1:=q.den_nz
 have d2:=r.den_nz
 have hz:Sz (q+sQ s r.num.natAbs r.den) (n+m+1):=hq.add (Eo d2 hr.1 hr.2)
 obtain⟨q1,q2⟩:=qw h1
 obtain⟨r1,r2⟩:=qw h2
 have hval:=ER q r s
 obtain⟨b,hb⟩:∃b,decide (q<0)=b:=⟨_,rfl⟩
 rw[hb]at hval
 obtain⟨wx,bx⟩:=og q1 r2
 obtain⟨wy,by'⟩:=og r1 q2
 obtain⟨wd,bd⟩:=og q2 r2
 have hd0:q.den*r.den≠0:=Nat.mul_ne_zero d1 d2
 have hk0:c.k0=br:=by
  funext k
  cases hk:c.k0 k with
  |none=>rfl
  |some x=>have:=h0 0 k x hk;omega
 -- the end by short numbers
 have ret:∀{s':aI} {N D k:Nat} {z:Rat},z=q+sQ s r.num.natAbs r.den->bh fH s'=some (jd s,oX b N D r m fun j=>if j=0 then eU (.rat z k)else .rat 0 1)->Q .ret s':=by
  intro s' N D k z hzv hv
  refine hR _ (Aq RF hv (h0 8193) rfl (aaR fun i _=>?_) ⟨show 0<1 by omega,fj hzv hz⟩)
  split<;>rfl
 have back:∀{s':aI},bh fH s'=some (jd s,oX b q.num.natAbs (if q.den=1 then 0 else q.den) r m fun _=>.rat 0 1)->Q .normal s':=by
  intro s' hv
  refine hN _ (au.mU (dZ (vs:=jd s) (ps:=nB q r n m) (nx:=8193) [(0,0),(4096,4096),(8192,8192)] hv hk0 (by simp[iQ]) ⟨aO,⟨rfl,g7 rfl⟩,⟨rfl,g7 rfl⟩,⟨rfl,g7 rfl⟩,trivial⟩
   ⟨⟨_,_,rfl,rfl,iH rfl fun i _=>iu rfl⟩,⟨_,_,rfl,rfl,iH rfl fun i _=>iu rfl⟩,⟨_,_,rfl,rfl,iH rfl fun i _=>jb rfl ?_⟩,trivial⟩) ?_)
  ·rw[<-hb];exact LO hq
  ·exact Mi h0 hq hr hn hm' (s:=s) rfl
 refine au.mU (dZ (us:=[.bool s,.ptr 0 0 3 0 [],.ptr 4096 0 3 0 [],.ptr 8192 0 3 0 [],.int .u64 (q.num.natAbs:Nat),.int .u64 (q.den:Nat),.int .u64 (r.num.natAbs:Nat),.int .u64 (r.den:Nat)])
   (vs:=[.bool s,.ptr 0 0 3 0 [],.ptr 4096 0 3 0 [],.ptr 8192 0 3 0 [],.int .u64 (q.num.natAbs:Nat),.int .u64 (q.den:Nat),.int .u64 (r.num.natAbs:Nat),.int .u64 (r.den:Nat)]) (os:=nB q r n m) (ps:=oX b q.num.natAbs (if q.den=1 then 0 else q.den) r m fun _=>.rat 0 1) (nx:=8193) [(0,0),(4096,4096),(8192,8192)] hv hk0 (by simp[iQ])
  ⟨aO,⟨rfl,g7 rfl⟩,⟨rfl,g7 rfl⟩,⟨rfl,g7 rfl⟩,aO,aO,aO,aO,trivial⟩
  ⟨⟨_,_,rfl,rfl,iH rfl fun i _=>iu rfl⟩,⟨_,_,rfl,rfl,iH rfl fun i _=>iu rfl⟩,⟨_,_,rfl,rfl,iH rfl fun i _=>jb rfl (by rw[<-hb];exact KC)⟩,trivial⟩) ?_
 have hD0:0<q.den*r.den:=aa
 have eqc:b=s->sQ s (q.num.natAbs*r.den+r.num.natAbs*q.den) (q.den*r.den)=q+sQ s r.num.natAbs r.den:=fun h=>by rw[hval,h,CH hd0]
 have gec:b≠s->r.num.natAbs*q.den<=q.num.natAbs*r.den->sQ b (q.num.natAbs*r.den-r.num.natAbs*q.den) (q.den*r.den)=q+sQ s r.num.natAbs r.den:=fun h h'=>by rw[hval,DI hd0 h h']
 have ltc:b≠s->q.num.natAbs*r.den<=r.num.natAbs*q.den->sQ s (r.num.natAbs*q.den-q.num.natAbs*r.den) (q.den*r.den)=q+sQ s r.num.natAbs r.den:=fun h h'=>by rw[hval,DW hd0 h h']
 clear hval hv hN hR h1 h2 hb
 generalize q+sQ s r.num.natAbs r.den=V at*
 generalize q.num.natAbs*r.den=X at*
 generalize r.num.natAbs*q.den=Y at*
 generalize q.den*r.den=D at*
 have ws:∀{a b:Nat},b<=a->a<=18446744065119617025->IntKind.u64.wrap ((a:Int)-(b:Int))=((a-b:Nat):Int):=fun {a b} h1 h2=>by rw[cy aa aa];omega
 cases b<;>cases s
 ·refine au.bJ hT lU hm 60 fH Zw ag ?_
  rw[wx,wy,wd]
  simp only[af.all,aA,beq_iff_eq,bE]
  refine⟨⟨aa,aa,aa⟩,aa,fun hc=>⟨⟨aa,aa,aa⟩,fun s' hv=>ret ?_ hv⟩,fun hc=>⟨aa,aa,fun s' hv=>back hv⟩⟩
  have h:=eq_of_beq (jW hc)
  have e:(((X:Int)+(Y:Int)+0)%18446744073709551616).toNat=X+Y:=aa
  rw[e];exact eqc rfl
 ·refine au.bJ hT lU hm 60 fH Sv ag ?_
  rw[wx,wy,wd]
  simp only[af.all,aA,beq_iff_eq,bE]
  refine⟨⟨aa,aa,aa⟩,aa,aa,fun hc=>?_,fun hc=>?_⟩
  ·have h:=of_decide_eq_true (jW hc)
   have h':Y<=X:=aa
   rw[ws h' bx]
   refine⟨⟨aa,aa,aa,aa⟩,fun s' hv=>ret ?_ hv⟩
   rw[bE];exact gec (by simp) h'
  ·have h:=of_decide_eq_false (jW hc)
   have h':X<=Y:=aa
   rw[ws h' by']
   refine⟨aa,⟨aa,aa,aa⟩,fun s' hv=>ret ?_ hv⟩
   rw[bE];exact ltc (by simp) h'
 ·refine au.bJ hT lU hm 60 fH Rf ag ?_
  rw[wx,wy,wd]
  simp only[af.all,aA,beq_iff_eq,bE]
  refine⟨⟨aa,aa,aa⟩,aa,aa,fun hc=>?_,fun hc=>?_⟩
  ·have h:=of_decide_eq_true (jW hc)
   have h':Y<=X:=aa
   rw[ws h' bx]
   refine⟨⟨aa,aa,aa,aa⟩,fun s' hv=>ret ?_ hv⟩
   rw[bE];exact gec (by simp) h'
  ·have h:=of_decide_eq_false (jW hc)
   have h':X<=Y:=aa
   rw[ws h' by']
   refine⟨aa,⟨aa,aa,aa⟩,fun s' hv=>ret ?_ hv⟩
   rw[bE];exact ltc (by simp) h'
 ·refine au.bJ hT lU hm 60 fH Qy ag ?_
  rw[wx,wy,wd]
  simp only[af.all,aA,beq_iff_eq,bE]
  refine⟨⟨aa,aa,aa⟩,aa,fun hc=>⟨⟨aa,aa,aa⟩,fun s' hv=>ret ?_ hv⟩,fun hc=>⟨aa,aa,fun s' hv=>back hv⟩⟩
  have h:=eq_of_beq (jW hc)
  have e:(((X:Int)+(Y:Int)+0)%18446744073709551616).toNat=X+Y:=aa
  rw[e];exact eqc rfl
theorem R8 (hn:n<2^42) (hm':m<2^42) (K:Nat) (pre:aD):aQ P 164 K [.rat q n,.rat r m,.bool s] pre (aM (.rat (q+sQ s r.num.natAbs r.den) (n+m+1)) []):=by
 refine lM fun⟨hq,hr,_⟩=>?_
 have hq:Sz q n:=hq
 have hr:Sz r m:=hr
 refine iI hT aco rfl bp rfl (fun _ c h0=>?_) K pre
 have long:=fun {s':aI}=>Mi (s:=s) (s':=s') h0 hq hr hn hm'
 have fin:∀{s':aI} {R:AV},au P c f164.ntmps nW s' (gi c (Fin T f164 R))->au P c f164.ntmps nW s' (fk (fun s''=>aF P c f164.ntmps (behind (aG f164) [1,1]) s'' (gi c (Fin T f164 R))) (gi c (Fin T f164 R))):=
  fun h=>au.mono h fun e s' h=>by cases e<;>exact h
 refine au.hole [1,1] ag (aF.chunk 1 (aF.bJ hT lU hm 60 fH Ra ag fun s' hv=>cM ?_))
 show aF P c f164.ntmps [EW] s' _
 refine aF.kA hv (h0 8193) rfl rfl yS ?_
 refine au.hole [1,1] ag (aF.bJ hT lU hm 60 (fH++[7,8,28]) ab2 ag ⟨show 0<1 by omega,fun s' hv=>cM ?_⟩)
 refine au.cond (b:=.tmp 28) (x:=Cc) (y:=.skip) (yB hv rfl rfl) (fun h1=>?_) (fun h1=>au.skip (by exact fin (long (ku (ls:=fH) (l:=[7,8,28]) (vs:=jd s) hv rfl rfl))))
 simp only[h1,if_true]at hv
 have hv:=ku (ls:=fH++[7,8]) (l:=[28]) (vs:=jd s++[.int .u64 (q.num.natAbs:Nat),.int .u64 (q.den:Nat)]) hv rfl rfl
 refine au.kA hv (h0 8193) rfl yS ?_
 refine au.hole [1,1] ag (aF.bJ hT lU hm 60 (fH++[7,8,10,11,35]) Sa ag ⟨show 0<1 by omega,fun s' hv=>cM ?_⟩)
 refine au.cond (b:=.tmp 35) (x:=um) (y:=.skip) (yB hv rfl rfl) (fun h2=>?_) (fun h2=>au.skip (by exact fin (long (ku (ls:=fH) (l:=[7,8,10,11,35]) (vs:=jd s) hv rfl rfl))))
 simp only[h2,if_true]at hv
 exact Yg h0 hq hr hn hm' h1 h2 (ku (ls:=fH++[7,8,10,11]) (l:=[35]) (vs:=jd s++[.int .u64 (q.num.natAbs:Nat),.int .u64 (q.den:Nat),.int .u64 (r.num.natAbs:Nat),.int .u64 (r.den:Nat)]) hv rfl rfl)
  (fun s' h=>by exact fin h) (fun s' h=>by exact h)
end add
end Go.Am.B
