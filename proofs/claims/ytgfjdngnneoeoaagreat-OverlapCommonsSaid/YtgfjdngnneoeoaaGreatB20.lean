/- rational.add, Add, Sub, Mul, Quo. -/
import Derived.Test.YtgfjdngnneoeoaaGreatB19
set_option linter.unusedVariables false
namespace Go.Am.B
open Go Go.Am.N AV Proofs.Tryz
theorem J6 {b:Bool} {N D k:Nat} (hk:k≠0):sQ b (N*k) (D*k)=sQ b N D:=by
 unfold sQ
 have:gd b (N*k)=gd b N*(k:Int):=by unfold gd;split<;>simp[Int.neg_mul]
 rw[this,Rat.mkRat_mul_right hk]
theorem BN {a c:Int} {d:Nat} (hd:d≠0):mkRat a d+mkRat c d=mkRat (a+c) d:=by
 rw[Rat.mkRat_add_mkRat _ _ hd hd,<-Int.add_mul,Rat.mkRat_mul_right hd]
theorem Bk {s:Bool} {X Y D:Nat} (hD:D≠0):sQ s X D+sQ s Y D=sQ s (X+Y) D:=by
 unfold sQ
 rw[BN hD]
 congr 1
 unfold gd;split<;>simp<;>omega
theorem A0 {b s:Bool} {X Y D:Nat} (hD:D≠0) (hb:b≠s) (h:Y<=X):sQ b X D+sQ s Y D=sQ b (X-Y) D:=by
 unfold sQ
 rw[BN hD]
 congr 1
 unfold gd
 cases b<;>cases s<;>simp at hb ⊢<;>omega
theorem A4 {b s:Bool} {X Y D:Nat} (hD:D≠0) (hb:b≠s) (h:X<=Y):sQ b X D+sQ s Y D=sQ s (Y-X) D:=by
 unfold sQ
 rw[BN hD]
 congr 1
 unfold gd
 cases b<;>cases s<;>simp at hb ⊢<;>omega
theorem Vp {b s:Bool} {X Y:Nat}:gd b X*gd s Y=gd (b !=s) (X*Y):=by
 unfold gd
 cases b<;>cases s<;>simp[Int.neg_mul,Int.mul_neg]
theorem BQ {b s:Bool} {X Y D E:Nat}:sQ b X D*sQ s Y E=sQ (b !=s) (X*Y) (D*E):=by
 unfold sQ
 rw[Rat.mkRat_mul_mkRat,Vp]
theorem oQ {q:Rat} (h:eu q=true):q.num.natAbs<4294967296/\q.den<4294967296:=by
 unfold eu at h
 simpa using h
theorem nC {a b:Nat} (ha:a<4294967296) (hb:b<4294967296):IntKind.u64.wrap ((a:Int)*(b:Int))=((a*b:Nat):Int)/\a*b<=18446744065119617025:=by
 have h:=Nat.mul_le_mul (show a<=4294967295 by omega) (show b<=4294967295 by omega)
 refine⟨?_,h⟩
 rw[show(a:Int)*(b:Int)=((a*b:Nat):Int) by simp,ck aa aa]
section add
variable {q r:Rat} {n m:Nat} {s:Bool}
theorem QC {f:Nat->AV} (hf:∀i,i<1->keys (f i)=[]) {b:Bool} {N D:Nat}:iE 8193 (og b N D r m f):=⟨⟨aa,hf⟩,⟨aa,fun _ _=>rfl⟩,⟨aa,fun _ _=>rfl⟩,trivial⟩
theorem zY:iE 8193 (mJ q r n m):=⟨⟨aa,fun _ _=>rfl⟩,⟨aa,fun _ _=>rfl⟩,⟨aa,fun _ _=>rfl⟩,trivial⟩
theorem Co (q r:Rat) (s:Bool):q+sQ s r.num.natAbs r.den=sQ (decide (q<0)) (q.num.natAbs*r.den) (q.den*r.den)+sQ s (r.num.natAbs*q.den) (q.den*r.den):=by
 rw[J6 r.den_nz,kB,Nat.mul_comm q.den,J6 q.den_nz]
theorem EA {c:Ctx} (h0:∀nx k x,c.k0 k=some x->k<nx) (hq:Sz q n) (hr:Sz r m) (hn:n<2^42) (hm':m<2^42) {s':aL} (hv:bC eR s'=some (iA s,mJ q r n m)):
  ay P c f89.ntmps nq s' (eG c (Fin T f89 (.rat (q+sQ s r.num.natAbs r.den) (n+m+1)))):=by
 obtain⟨a1,a2,a3⟩:=Sz.jV hq aa
 obtain⟨b1,b2,b3⟩:=Sz.jV hr aa
 have d1:=q.den_nz
 have d2:=r.den_nz
 have hz:Sz (q+sQ s r.num.natAbs r.den) (n+m+1):=hq.add (AI d2 hr.1 hr.2)
 have bx:∀{a b:Nat},a<2^n->b<2^m->nl (a*b)<2^40:=fun ha hb=>jU (n:=n+m) (by rw[Nat.pow_add];exact Nat.mul_lt_mul'' ha hb) aa
 have last:∀{s':aL} {X Y D k:Nat},k<2^43->X<2^k->Y<2^k->nl D<2^40->D≠0->q+sQ s r.num.natAbs r.den=sQ (decide (q<0)) X D+sQ s Y D->bC (eR++[15,16,17]) s'=some (iA s++[.mag X,.mag Y,.mag D],mJ q r n m)->
   aJ P c f89.ntmps [part nq [1,1]] s' (eG c (Fin T f89 (.rat (q+sQ s r.num.natAbs r.den) (n+m+1)))):=by
  intro s' X Y D k hk hX2 hY2 hD hD0 heq hv
  have hX:=jU hX2 aa
  have hY:=jU hY2 aa
  have hXY:nl (X+Y)<2^40:=jU (n:=k+1) (by rw[Nat.pow_succ];omega) aa
  refine aJ.jN hT lE hm 60 hv (h0 _) rfl zY Xz ah rfl ?_
  simp only[ag.all,au,beq_iff_eq,beq_eq_false_iff_ne,ne_eq]
  refine⟨aa,fun hb=>⟨⟨hX,hY,hXY,hD,aa⟩,aa,er ?_ hz⟩,fun hb=>⟨⟨hX,hY⟩,fun hc=>⟨⟨aa,Nat.lt_of_le_of_lt (ic (Nat.sub_le _ _)) hX,hD,aa⟩,aa,er ?_ hz⟩,fun hc=>⟨⟨hY,hX⟩,⟨Nat.lt_of_le_of_lt (ic (Nat.sub_le _ _)) hY,hD,aa⟩,aa,er ?_ hz⟩⟩⟩
  ·rw[heq,hb,Bk hD0]
  ·rw[heq,A0 hD0 hb (by split at hc<;>omega)]
  ·rw[heq,A4 hD0 hb (by split at hc<;>omega)]
 have mulb:∀{a b:Nat},a<2^n->b<2^m->a*b<2^(n+m):=fun ha hb=>by rw[Nat.pow_add];exact Nat.mul_lt_mul'' ha hb
 refine ay.hole [1,1] ah (aJ.fu hT lE hm 60 hv (h0 _) rfl zY (eR++[15,16,17]) adq ah rfl ?_)
 simp only[ag.all,au,Bool.not_eq_true',bF,Bool.not_eq_false',bz]
 have fin:∀{s':aL} {R:AV},aJ P c f89.ntmps [part nq [1,1]] s' (eG c (Fin T f89 R))->ay P c f89.ntmps (part nq [1,1]) s' (ej (fun s''=>aJ P c f89.ntmps (behind nq [1,1]) s'' (eG c (Fin T f89 R))) (eG c (Fin T f89 R))):=
  fun h=>ay.mono h fun e s' h=>by cases e<;>exact h
 refine⟨⟨aa,aa,aa⟩,⟨aa,aa,a3,b3⟩,fun hb=>⟨⟨aa,a1,b2,aa,b1,a2,aa,a2,b2⟩,fun s' hv=>cF (fin (last (k:=n+m) aa (mulb hq.1 hr.2) ?_ (bx hq.2 hr.2) (Nat.mul_ne_zero d1 d2) (Co q r s) hv))⟩,fun hb s' hv=>cF (fin (last (k:=n+m) aa (Nat.lt_of_lt_of_le hq.1 (Nat.pow_le_pow_right aa aa)) (Nat.lt_of_lt_of_le hr.1 (Nat.pow_le_pow_right aa aa)) a2 d1 ?_ hv))⟩
 ·rw[Nat.mul_comm];exact mulb hq.2 hr.1
 ·have:q.den=r.den:=by split at hb<;>split at hb<;>omega
  rw[<-this,kB]
theorem SA {c:Ctx} (h0:∀nx k x,c.k0 k=some x->k<nx) (hq:Sz q n) (hr:Sz r m) (hn:n<2^42) (hm':m<2^42) (h1:eu q=true) (h2:eu r=true) {s':aL} {Q:ak->aL->Prop}
  (hv:bC (eR++[7,8,10,11]) s'=some (iA s++[.int .u64 (q.num.natAbs:Nat),.int .u64 (q.den:Nat),.int .u64 (r.num.natAbs:Nat),.int .u64 (r.den:Nat)],mJ q r n m))
  (hN:∀s',ay P c f89.ntmps nq s' (eG c (Fin T f89 (.rat (q+sQ s r.num.natAbs r.den) (n+m+1))))->Q .normal s')
  (hR:∀s',eG c (Fin T f89 (.rat (q+sQ s r.num.natAbs r.den) (n+m+1))) .ret s'->Q .ret s'):ay P c f89.ntmps s5 s' Q:=by
 have d1:=q.den_nz
 have d2:=r.den_nz
 have hz:Sz (q+sQ s r.num.natAbs r.den) (n+m+1):=hq.add (AI d2 hr.1 hr.2)
 obtain⟨q1,q2⟩:=oQ h1
 obtain⟨r1,r2⟩:=oQ h2
 have hval:=Co q r s
 obtain⟨b,hb⟩:∃b,decide (q<0)=b:=⟨_,rfl⟩
 rw[hb]at hval
 obtain⟨wx,bx⟩:=nC q1 r2
 obtain⟨wy,by'⟩:=nC r1 q2
 obtain⟨wd,bd⟩:=nC q2 r2
 have hd0:q.den*r.den≠0:=Nat.mul_ne_zero d1 d2
 have hk0:c.k0=bu:=by
  funext k
  cases hk:c.k0 k with
  |none=>rfl
  |some x=>have:=h0 0 k x hk;omega
 -- the end by short numbers
 have ret:∀{s':aL} {N D k:Nat} {z:Rat},z=q+sQ s r.num.natAbs r.den->bC eR s'=some (iA s,og b N D r m fun j=>if j=0 then bK (.rat z k)else .rat 0 1)->Q .ret s':=by
  intro s' N D k z hzv hv
  refine hR _ (zA Xc hv (h0 8193) rfl (QC fun i _=>?_) ⟨show 0<1 by omega,er hzv hz⟩)
  split<;>rfl
 have back:∀{s':aL},bC eR s'=some (iA s,og b q.num.natAbs (if q.den=1 then 0 else q.den) r m fun _=>.rat 0 1)->Q .normal s':=by
  intro s' hv
  refine hN _ (ay.lP (dD (vs:=iA s) (ps:=mJ q r n m) (nx:=8193) [(0,0),(4096,4096),(8192,8192)] hv hk0 (by simp[jc]) ⟨aQ,⟨rfl,ou rfl⟩,⟨rfl,ou rfl⟩,⟨rfl,ou rfl⟩,trivial⟩
   ⟨⟨_,_,rfl,rfl,iX rfl fun i _=>gu rfl⟩,⟨_,_,rfl,rfl,iX rfl fun i _=>gu rfl⟩,⟨_,_,rfl,rfl,iX rfl fun i _=>kA rfl ?_⟩,trivial⟩) ?_)
  ·rw[<-hb];exact Ik hq
  ·exact EA h0 hq hr hn hm' (s:=s) rfl
 refine ay.lP (dD (us:=[.bool s,.ptr 0 0 3 0 [],.ptr 4096 0 3 0 [],.ptr 8192 0 3 0 [],.int .u64 (q.num.natAbs:Nat),.int .u64 (q.den:Nat),.int .u64 (r.num.natAbs:Nat),.int .u64 (r.den:Nat)])
   (vs:=[.bool s,.ptr 0 0 3 0 [],.ptr 4096 0 3 0 [],.ptr 8192 0 3 0 [],.int .u64 (q.num.natAbs:Nat),.int .u64 (q.den:Nat),.int .u64 (r.num.natAbs:Nat),.int .u64 (r.den:Nat)]) (os:=mJ q r n m) (ps:=og b q.num.natAbs (if q.den=1 then 0 else q.den) r m fun _=>.rat 0 1) (nx:=8193) [(0,0),(4096,4096),(8192,8192)] hv hk0 (by simp[jc])
  ⟨aQ,⟨rfl,ou rfl⟩,⟨rfl,ou rfl⟩,⟨rfl,ou rfl⟩,aQ,aQ,aQ,aQ,trivial⟩
  ⟨⟨_,_,rfl,rfl,iX rfl fun i _=>gu rfl⟩,⟨_,_,rfl,rfl,iX rfl fun i _=>gu rfl⟩,⟨_,_,rfl,rfl,iX rfl fun i _=>kA rfl (by rw[<-hb];exact Fq)⟩,trivial⟩) ?_
 have hD0:0<q.den*r.den:=aa
 have eqc:b=s->sQ s (q.num.natAbs*r.den+r.num.natAbs*q.den) (q.den*r.den)=q+sQ s r.num.natAbs r.den:=fun h=>by rw[hval,h,Bk hd0]
 have gec:b≠s->r.num.natAbs*q.den<=q.num.natAbs*r.den->sQ b (q.num.natAbs*r.den-r.num.natAbs*q.den) (q.den*r.den)=q+sQ s r.num.natAbs r.den:=fun h h'=>by rw[hval,A0 hd0 h h']
 have ltc:b≠s->q.num.natAbs*r.den<=r.num.natAbs*q.den->sQ s (r.num.natAbs*q.den-q.num.natAbs*r.den) (q.den*r.den)=q+sQ s r.num.natAbs r.den:=fun h h'=>by rw[hval,A4 hd0 h h']
 clear hval hv hN hR h1 h2 hb
 generalize q+sQ s r.num.natAbs r.den=V at*
 generalize q.num.natAbs*r.den=X at*
 generalize r.num.natAbs*q.den=Y at*
 generalize q.den*r.den=D at*
 have ws:∀{a b:Nat},b<=a->a<=18446744065119617025->IntKind.u64.wrap ((a:Int)-(b:Int))=((a-b:Nat):Int):=fun {a b} h1 h2=>by rw[ck aa aa];omega
 cases b<;>cases s
 ·refine ay.bE hT lE hm 60 eR SU ah ?_
  rw[wx,wy,wd]
  simp only[ag.all,au,beq_iff_eq,bw]
  refine⟨⟨aa,aa,aa⟩,aa,fun hc=>⟨⟨aa,aa,aa⟩,fun s' hv=>ret ?_ hv⟩,fun hc=>⟨aa,aa,fun s' hv=>back hv⟩⟩
  have h:=eq_of_beq (jt hc)
  have e:(((X:Int)+(Y:Int)+0)%18446744073709551616).toNat=X+Y:=aa
  rw[e];exact eqc rfl
 ·refine ay.bE hT lE hm 60 eR Tb ah ?_
  rw[wx,wy,wd]
  simp only[ag.all,au,beq_iff_eq,bw]
  refine⟨⟨aa,aa,aa⟩,aa,aa,fun hc=>?_,fun hc=>?_⟩
  ·have h:=of_decide_eq_true (jt hc)
   have h':Y<=X:=aa
   rw[ws h' bx]
   refine⟨⟨aa,aa,aa,aa⟩,fun s' hv=>ret ?_ hv⟩
   rw[bw];exact gec (by simp) h'
  ·have h:=of_decide_eq_false (jt hc)
   have h':X<=Y:=aa
   rw[ws h' by']
   refine⟨aa,⟨aa,aa,aa⟩,fun s' hv=>ret ?_ hv⟩
   rw[bw];exact ltc (by simp) h'
 ·refine ay.bE hT lE hm 60 eR aa8 ah ?_
  rw[wx,wy,wd]
  simp only[ag.all,au,beq_iff_eq,bw]
  refine⟨⟨aa,aa,aa⟩,aa,aa,fun hc=>?_,fun hc=>?_⟩
  ·have h:=of_decide_eq_true (jt hc)
   have h':Y<=X:=aa
   rw[ws h' bx]
   refine⟨⟨aa,aa,aa,aa⟩,fun s' hv=>ret ?_ hv⟩
   rw[bw];exact gec (by simp) h'
  ·have h:=of_decide_eq_false (jt hc)
   have h':X<=Y:=aa
   rw[ws h' by']
   refine⟨aa,⟨aa,aa,aa⟩,fun s' hv=>ret ?_ hv⟩
   rw[bw];exact ltc (by simp) h'
 ·refine ay.bE hT lE hm 60 eR acm ah ?_
  rw[wx,wy,wd]
  simp only[ag.all,au,beq_iff_eq,bw]
  refine⟨⟨aa,aa,aa⟩,aa,fun hc=>⟨⟨aa,aa,aa⟩,fun s' hv=>ret ?_ hv⟩,fun hc=>⟨aa,aa,fun s' hv=>back hv⟩⟩
  have h:=eq_of_beq (jt hc)
  have e:(((X:Int)+(Y:Int)+0)%18446744073709551616).toNat=X+Y:=aa
  rw[e];exact eqc rfl
theorem agt (hn:n<2^42) (hm':m<2^42) (K:Nat) (pre:aD):aO P 89 K [.rat q n,.rat r m,.bool s] pre (aI (.rat (q+sQ s r.num.natAbs r.den) (n+m+1)) []):=by
 refine j8 fun⟨hq,hr,_⟩=>?_
 have hq:Sz q n:=hq
 have hr:Sz r m:=hr
 refine ji hT Qx rfl aV rfl (fun _ c h0=>?_) K pre
 have long:=fun {s':aL}=>EA (s:=s) (s':=s') h0 hq hr hn hm'
 have fin:∀{s':aL} {R:AV},ay P c f89.ntmps nq s' (eG c (Fin T f89 R))->ay P c f89.ntmps nq s' (ej (fun s''=>aJ P c f89.ntmps (behind (aF f89) [1,1]) s'' (eG c (Fin T f89 R))) (eG c (Fin T f89 R))):=
  fun h=>ay.mono h fun e s' h=>by cases e<;>exact h
 refine ay.hole [1,1] ah (aJ.chunk 1 (aJ.bE hT lE hm 60 eR agS ah fun s' hv=>cF ?_))
 show aJ P c f89.ntmps [Bx] s' _
 refine aJ.jQ hv (h0 8193) rfl rfl zY ?_
 refine ay.hole [1,1] ah (aJ.bE hT lE hm 60 (eR++[7,8,28]) abE ah ⟨show 0<1 by omega,fun s' hv=>cF ?_⟩)
 refine ay.cond (b:=.tmp 28) (x:=Bl) (y:=.skip) (uk hv rfl rfl) (fun h1=>?_) (fun h1=>ay.skip (by exact fin (long (jn (ls:=eR) (l:=[7,8,28]) (vs:=iA s) hv rfl rfl))))
 simp only[h1,if_true]at hv
 have hv:=jn (ls:=eR++[7,8]) (l:=[28]) (vs:=iA s++[.int .u64 (q.num.natAbs:Nat),.int .u64 (q.den:Nat)]) hv rfl rfl
 refine ay.jQ hv (h0 8193) rfl zY ?_
 refine ay.hole [1,1] ah (aJ.bE hT lE hm 60 (eR++[7,8,10,11,35]) O5 ah ⟨show 0<1 by omega,fun s' hv=>cF ?_⟩)
 refine ay.cond (b:=.tmp 35) (x:=s5) (y:=.skip) (uk hv rfl rfl) (fun h2=>?_) (fun h2=>ay.skip (by exact fin (long (jn (ls:=eR) (l:=[7,8,10,11,35]) (vs:=iA s) hv rfl rfl))))
 simp only[h2,if_true]at hv
 exact SA h0 hq hr hn hm' h1 h2 (jn (ls:=eR++[7,8,10,11]) (l:=[35]) (vs:=iA s++[.int .u64 (q.num.natAbs:Nat),.int .u64 (q.den:Nat),.int .u64 (r.num.natAbs:Nat),.int .u64 (r.den:Nat)]) hv rfl rfl)
  (fun s' h=>by exact fin h) (fun s' h=>by exact h)
end add
end Go.Am.B
