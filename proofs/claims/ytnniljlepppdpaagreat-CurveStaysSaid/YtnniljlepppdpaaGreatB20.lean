/- rational.add, Add, Sub, Mul, Quo. -/
import Derived.Test.YtnniljlepppdpaaGreatB19
set_option linter.unusedVariables false
namespace Go.Am.B
open Go Go.Am.N AV
theorem LY {b:Bool} {N D k:Nat} (hk:k≠0):sQ b (N*k) (D*k)=sQ b N D:=by
 unfold sQ
 have:gq b (N*k)=gq b N*(k:Int):=by unfold gq;split<;>simp[Int.neg_mul]
 rw[this,Rat.mkRat_mul_right hk]
theorem KX {a c:Int} {d:Nat} (hd:d≠0):mkRat a d+mkRat c d=mkRat (a+c) d:=by
 rw[Rat.mkRat_add_mkRat _ _ hd hd,<-Int.add_mul,Rat.mkRat_mul_right hd]
theorem JW {s:Bool} {X Y D:Nat} (hD:D≠0):sQ s X D+sQ s Y D=sQ s (X+Y) D:=by
 unfold sQ
 rw[KX hD]
 congr 1
 unfold gq;split<;>simp<;>omega
theorem HQ {b s:Bool} {X Y D:Nat} (hD:D≠0) (hb:b≠s) (h:Y<=X):sQ b X D+sQ s Y D=sQ b (X-Y) D:=by
 unfold sQ
 rw[KX hD]
 congr 1
 unfold gq
 cases b<;>cases s<;>simp at hb ⊢<;>omega
theorem J0 {b s:Bool} {X Y D:Nat} (hD:D≠0) (hb:b≠s) (h:X<=Y):sQ b X D+sQ s Y D=sQ s (Y-X) D:=by
 unfold sQ
 rw[KX hD]
 congr 1
 unfold gq
 cases b<;>cases s<;>simp at hb ⊢<;>omega
theorem aip {b s : Bool} {X Y : Nat} : gq b X * gq s Y = gq (b != s) (X * Y) := by
 unfold gq
 cases b<;>cases s<;>simp[Int.neg_mul,Int.mul_neg]
theorem Iv {b s : Bool} {X Y D E : Nat} : sQ b X D * sQ s Y E = sQ (b != s) (X * Y) (D * E) := by
 unfold sQ
 rw[Rat.mkRat_mul_mkRat,aip]
theorem qM {q:Rat} (h:eE q=true):q.num.natAbs<4294967296/\q.den<4294967296:=by
 unfold eE at h
 simpa using h
theorem oR {a b:Nat} (ha:a<4294967296) (hb:b<4294967296):IntKind.u64.wrap ((a:Int)*(b:Int))=((a*b:Nat):Int)/\a*b<=18446744065119617025:=by
 have h:=Nat.mul_le_mul (show a<=4294967295 by omega) (show b<=4294967295 by omega)
 refine⟨?_,h⟩
 rw[show(a:Int)*(b:Int)=((a*b:Nat):Int) by simp,cr aa aa]
section add
variable {q r:Rat} {n m:Nat} {s:Bool}
theorem acF {f:Nat->AV} (hf:∀i,i<1->keys (f i)=[]) {b:Bool} {N D:Nat}:gW 8193 (o6 b N D r m f):=⟨⟨aa,hf⟩,⟨aa,fun _ _=>rfl⟩,⟨aa,fun _ _=>rfl⟩,trivial⟩
theorem CV:gW 8193 (oq q r n m):=⟨⟨aa,fun _ _=>rfl⟩,⟨aa,fun _ _=>rfl⟩,⟨aa,fun _ _=>rfl⟩,trivial⟩
theorem IK (q r:Rat) (s:Bool):q+sQ s r.num.natAbs r.den=sQ (decide (q<0)) (q.num.natAbs*r.den) (q.den*r.den)+sQ s (r.num.natAbs*q.den) (q.den*r.den):=by
 rw[LY r.den_nz,lS,Nat.mul_comm q.den,LY q.den_nz]
theorem RN {c:Ctx} (h0:∀nx k x,c.k0 k=some x->k<nx) (hq:Sz q n) (hr:Sz r m) (hn:n<2^42) (hm':m<2^42) {s':aJ} (hv:bw eW s'=some (iR s,oq q r n m)):
  ay P c fT.ntmps nP s' (ep c (Fin T fT (.rat (q+sQ s r.num.natAbs r.den) (n+m+1)))):=by
 obtain⟨a1,a2,a3⟩:=Sz.jX hq aa
 obtain⟨b1,b2,b3⟩:=Sz.jX hr aa
 have d1:=q.den_nz
 have d2:=r.den_nz
 have hz:Sz (q+sQ s r.num.natAbs r.den) (n+m+1):=hq.add (DS d2 hr.1 hr.2)
 have bx:∀{a b:Nat},a<2^n->b<2^m->nl (a*b)<2^40:=fun ha hb=>jW (n:=n+m) (by rw[Nat.pow_add];exact Nat.mul_lt_mul'' ha hb) aa
 have last:∀{s':aJ} {X Y D k:Nat},k<2^43->X<2^k->Y<2^k->nl D<2^40->D≠0->q+sQ s r.num.natAbs r.den=sQ (decide (q<0)) X D+sQ s Y D->bw (eW++[15,16,17]) s'=some (iR s++[.mag X,.mag Y,.mag D],oq q r n m)->
   aG P c fT.ntmps [part nP [1,1]] s' (ep c (Fin T fT (.rat (q+sQ s r.num.natAbs r.den) (n+m+1)))):=by
  intro s' X Y D k hk hX2 hY2 hD hD0 heq hv
  have hX:=jW hX2 aa
  have hY:=jW hY2 aa
  have hXY:nl (X+Y)<2^40:=jW (n:=k+1) (by rw[Nat.pow_succ];omega) aa
  refine aG.k8 hT mL hm 60 hv (h0 _) rfl CV af8 ag rfl ?_
  simp only[ah.all,aA,beq_iff_eq,beq_eq_false_iff_ne,ne_eq]
  refine⟨aa,fun hb=>⟨⟨hX,hY,hXY,hD,aa⟩,aa,dc ?_ hz⟩,fun hb=>⟨⟨hX,hY⟩,fun hc=>⟨⟨aa,Nat.lt_of_le_of_lt (iA (Nat.sub_le _ _)) hX,hD,aa⟩,aa,dc ?_ hz⟩,fun hc=>⟨⟨hY,hX⟩,⟨Nat.lt_of_le_of_lt (iA (Nat.sub_le _ _)) hY,hD,aa⟩,aa,dc ?_ hz⟩⟩⟩
  ·rw[heq,hb,JW hD0]
  ·rw[heq,HQ hD0 hb (by split at hc<;>omega)]
  ·rw[heq,J0 hD0 hb (by split at hc<;>omega)]
 have mulb:∀{a b:Nat},a<2^n->b<2^m->a*b<2^(n+m):=fun ha hb=>by rw[Nat.pow_add];exact Nat.mul_lt_mul'' ha hb
 refine ay.hole [1,1] ag (aG.fE hT mL hm 60 hv (h0 _) rfl CV (eW++[15,16,17]) Ys ag rfl ?_)
 simp only[ah.all,aA,Bool.not_eq_true',bz,Bool.not_eq_false',bh]
 have fin:∀{s':aJ} {R:AV},aG P c fT.ntmps [part nP [1,1]] s' (ep c (Fin T fT R))->ay P c fT.ntmps (part nP [1,1]) s' (dU (fun s''=>aG P c fT.ntmps (behind nP [1,1]) s'' (ep c (Fin T fT R))) (ep c (Fin T fT R))):=
  fun h=>ay.mono h fun e s' h=>by cases e<;>exact h
 refine⟨⟨aa,aa,aa⟩,⟨aa,aa,a3,b3⟩,fun hb=>⟨⟨aa,a1,b2,aa,b1,a2,aa,a2,b2⟩,fun s' hv=>cF (fin (last (k:=n+m) aa (mulb hq.1 hr.2) ?_ (bx hq.2 hr.2) (Nat.mul_ne_zero d1 d2) (IK q r s) hv))⟩,fun hb s' hv=>cF (fin (last (k:=n+m) aa (Nat.lt_of_lt_of_le hq.1 (Nat.pow_le_pow_right aa aa)) (Nat.lt_of_lt_of_le hr.1 (Nat.pow_le_pow_right aa aa)) a2 d1 ?_ hv))⟩
 ·rw[Nat.mul_comm];exact mulb hq.2 hr.1
 ·have:q.den=r.den:=by split at hb<;>split at hb<;>omega
  rw[<-this,lS]
theorem ak7 {c:Ctx} (h0:∀nx k x,c.k0 k=some x->k<nx) (hq:Sz q n) (hr:Sz r m) (hn:n<2^42) (hm':m<2^42) (h1:eE q=true) (h2:eE r=true) {s':aJ} {Q:aq->aJ->Prop}
  (hv:bw (eW++[7,8,10,11]) s'=some (iR s++[.int .u64 (q.num.natAbs:Nat),.int .u64 (q.den:Nat),.int .u64 (r.num.natAbs:Nat),.int .u64 (r.den:Nat)],oq q r n m))
  (hN:∀s',ay P c fT.ntmps nP s' (ep c (Fin T fT (.rat (q+sQ s r.num.natAbs r.den) (n+m+1))))->Q .normal s')
  (hR:∀s',ep c (Fin T fT (.rat (q+sQ s r.num.natAbs r.den) (n+m+1))) .ret s'->Q .ret s'):ay P c fT.ntmps vh s' Q:=by
 have d1:=q.den_nz
 have d2:=r.den_nz
 have hz:Sz (q+sQ s r.num.natAbs r.den) (n+m+1):=hq.add (DS d2 hr.1 hr.2)
 obtain⟨q1,q2⟩:=qM h1
 obtain⟨r1,r2⟩:=qM h2
 have hval:=IK q r s
 obtain⟨b,hb⟩:∃b,decide (q<0)=b:=⟨_,rfl⟩
 rw[hb]at hval
 obtain⟨wx,bx⟩:=oR q1 r2
 obtain⟨wy,by'⟩:=oR r1 q2
 obtain⟨wd,bd⟩:=oR q2 r2
 have hd0:q.den*r.den≠0:=Nat.mul_ne_zero d1 d2
 have hk0:c.k0=bn:=by
  funext k
  cases hk:c.k0 k with
  |none=>rfl
  |some x=>have:=h0 0 k x hk;omega
 -- the end by short numbers
 have ret:∀{s':aJ} {N D k:Nat} {z:Rat},z=q+sQ s r.num.natAbs r.den->bw eW s'=some (iR s,o6 b N D r m fun j=>if j=0 then bt (.rat z k)else .rat 0 1)->Q .ret s':=by
  intro s' N D k z hzv hv
  refine hR _ (z6 afJ hv (h0 8193) rfl (acF fun i _=>?_) ⟨show 0<1 by omega,dc hzv hz⟩)
  split<;>rfl
 have back:∀{s':aJ},bw eW s'=some (iR s,o6 b q.num.natAbs (if q.den=1 then 0 else q.den) r m fun _=>.rat 0 1)->Q .normal s':=by
  intro s' hv
  refine hN _ (ay.kO (dF (vs:=iR s) (ps:=oq q r n m) (nx:=8193) [(0,0),(4096,4096),(8192,8192)] hv hk0 (by simp[iE]) ⟨⟨rfl,aL rfl⟩,⟨rfl,ov rfl⟩,⟨rfl,ov rfl⟩,⟨rfl,ov rfl⟩,trivial⟩
   ⟨⟨_,_,rfl,rfl,jE rfl fun i _=>aL rfl⟩,⟨_,_,rfl,rfl,jE rfl fun i _=>aL rfl⟩,⟨_,_,rfl,rfl,jE rfl fun i _=>nk rfl ?_⟩,trivial⟩) ?_)
  ·rw[<-hb];exact Ns hq
  ·exact RN h0 hq hr hn hm' (s:=s) rfl
 refine ay.kO (dF (us:=[.bool s,.ptr 0 0 3 0 [],.ptr 4096 0 3 0 [],.ptr 8192 0 3 0 [],.int .u64 (q.num.natAbs:Nat),.int .u64 (q.den:Nat),.int .u64 (r.num.natAbs:Nat),.int .u64 (r.den:Nat)])
   (vs:=[.bool s,.ptr 0 0 3 0 [],.ptr 4096 0 3 0 [],.ptr 8192 0 3 0 [],.int .u64 (q.num.natAbs:Nat),.int .u64 (q.den:Nat),.int .u64 (r.num.natAbs:Nat),.int .u64 (r.den:Nat)]) (os:=oq q r n m) (ps:=o6 b q.num.natAbs (if q.den=1 then 0 else q.den) r m fun _=>.rat 0 1) (nx:=8193) [(0,0),(4096,4096),(8192,8192)] hv hk0 (by simp[iE])
  ⟨⟨rfl,aL rfl⟩,⟨rfl,ov rfl⟩,⟨rfl,ov rfl⟩,⟨rfl,ov rfl⟩,⟨rfl,aL rfl⟩,⟨rfl,aL rfl⟩,⟨rfl,aL rfl⟩,⟨rfl,aL rfl⟩,trivial⟩
  ⟨⟨_,_,rfl,rfl,jE rfl fun i _=>aL rfl⟩,⟨_,_,rfl,rfl,jE rfl fun i _=>aL rfl⟩,⟨_,_,rfl,rfl,jE rfl fun i _=>nk rfl (by rw[<-hb];exact Th)⟩,trivial⟩) ?_
 have hD0:0<q.den*r.den:=aa
 have eqc:b=s->sQ s (q.num.natAbs*r.den+r.num.natAbs*q.den) (q.den*r.den)=q+sQ s r.num.natAbs r.den:=fun h=>by rw[hval,h,JW hd0]
 have gec:b≠s->r.num.natAbs*q.den<=q.num.natAbs*r.den->sQ b (q.num.natAbs*r.den-r.num.natAbs*q.den) (q.den*r.den)=q+sQ s r.num.natAbs r.den:=fun h h'=>by rw[hval,HQ hd0 h h']
 have ltc:b≠s->q.num.natAbs*r.den<=r.num.natAbs*q.den->sQ s (r.num.natAbs*q.den-q.num.natAbs*r.den) (q.den*r.den)=q+sQ s r.num.natAbs r.den:=fun h h'=>by rw[hval,J0 hd0 h h']
 clear hval hv hN hR h1 h2 hb
 generalize q+sQ s r.num.natAbs r.den=V at*
 generalize q.num.natAbs*r.den=X at*
 generalize r.num.natAbs*q.den=Y at*
 generalize q.den*r.den=D at*
 have ws:∀{a b:Nat},b<=a->a<=18446744065119617025->IntKind.u64.wrap ((a:Int)-(b:Int))=((a-b:Nat):Int):=fun {a b} h1 h2=>by rw[cr aa aa];omega
 cases b<;>cases s
 ·refine ay.bB hT mL hm 60 eW akm ag ?_
  rw[wx,wy,wd]
  simp only[ah.all,aA,beq_iff_eq,aZ]
  refine⟨⟨aa,aa,aa⟩,aa,fun hc=>⟨⟨aa,aa,aa⟩,fun s' hv=>ret ?_ hv⟩,fun hc=>⟨aa,aa,fun s' hv=>back hv⟩⟩
  have h:=eq_of_beq (jv hc)
  have e:(((X:Int)+(Y:Int)+0)%18446744073709551616).toNat=X+Y:=aa
  rw[e];exact eqc rfl
 ·refine ay.bB hT mL hm 60 eW alG ag ?_
  rw[wx,wy,wd]
  simp only[ah.all,aA,beq_iff_eq,aZ]
  refine⟨⟨aa,aa,aa⟩,aa,aa,fun hc=>?_,fun hc=>?_⟩
  ·have h:=of_decide_eq_true (jv hc)
   have h':Y<=X:=aa
   rw[ws h' bx]
   refine⟨⟨aa,aa,aa,aa⟩,fun s' hv=>ret ?_ hv⟩
   rw[aZ];exact gec (by simp) h'
  ·have h:=of_decide_eq_false (jv hc)
   have h':X<=Y:=aa
   rw[ws h' by']
   refine⟨aa,⟨aa,aa,aa⟩,fun s' hv=>ret ?_ hv⟩
   rw[aZ];exact ltc (by simp) h'
 ·refine ay.bB hT mL hm 60 eW VV ag ?_
  rw[wx,wy,wd]
  simp only[ah.all,aA,beq_iff_eq,aZ]
  refine⟨⟨aa,aa,aa⟩,aa,aa,fun hc=>?_,fun hc=>?_⟩
  ·have h:=of_decide_eq_true (jv hc)
   have h':Y<=X:=aa
   rw[ws h' bx]
   refine⟨⟨aa,aa,aa,aa⟩,fun s' hv=>ret ?_ hv⟩
   rw[aZ];exact gec (by simp) h'
  ·have h:=of_decide_eq_false (jv hc)
   have h':X<=Y:=aa
   rw[ws h' by']
   refine⟨aa,⟨aa,aa,aa⟩,fun s' hv=>ret ?_ hv⟩
   rw[aZ];exact ltc (by simp) h'
 ·refine ay.bB hT mL hm 60 eW aiE ag ?_
  rw[wx,wy,wd]
  simp only[ah.all,aA,beq_iff_eq,aZ]
  refine⟨⟨aa,aa,aa⟩,aa,fun hc=>⟨⟨aa,aa,aa⟩,fun s' hv=>ret ?_ hv⟩,fun hc=>⟨aa,aa,fun s' hv=>back hv⟩⟩
  have h:=eq_of_beq (jv hc)
  have e:(((X:Int)+(Y:Int)+0)%18446744073709551616).toNat=X+Y:=aa
  rw[e];exact eqc rfl
theorem akH (hn:n<2^42) (hm':m<2^42) (K:Nat) (pre:aF):aD P Ez K [.rat q n,.rat r m,.bool s] pre (aK (.rat (q+sQ s r.num.natAbs r.den) (n+m+1)) []):=by
 refine jL fun⟨hq,hr,_⟩=>?_
 have hq:Sz q n:=hq
 have hr:Sz r m:=hr
 refine iP hT acU rfl aW rfl (fun _ c h0=>?_) K pre
 have long:=fun {s':aJ}=>RN (s:=s) (s':=s') h0 hq hr hn hm'
 have fin:∀{s':aJ} {R:AV},ay P c fT.ntmps nP s' (ep c (Fin T fT R))->ay P c fT.ntmps nP s' (dU (fun s''=>aG P c fT.ntmps (behind (az fT) [1,1]) s'' (ep c (Fin T fT R))) (ep c (Fin T fT R))):=
  fun h=>ay.mono h fun e s' h=>by cases e<;>exact h
 refine ay.hole [1,1] ag (aG.chunk 1 (aG.bB hT mL hm 60 eW ac5 ag fun s' hv=>cF ?_))
 show aG P c fT.ntmps [K9] s' _
 refine aG.kM hv (h0 8193) rfl rfl CV ?_
 refine ay.hole [1,1] ag (aG.bB hT mL hm 60 (eW++[7,8,28]) ahk ag ⟨show 0<1 by omega,fun s' hv=>cF ?_⟩)
 refine ay.cond (b:=.tmp 28) (x:=Gu) (y:=.skip) (xD hv rfl rfl) (fun h1=>?_) (fun h1=>ay.skip (by exact fin (long (iY (ls:=eW) (l:=[7,8,28]) (vs:=iR s) hv rfl rfl))))
 simp only[h1,if_true]at hv
 have hv:=iY (ls:=eW++[7,8]) (l:=[28]) (vs:=iR s++[.int .u64 (q.num.natAbs:Nat),.int .u64 (q.den:Nat)]) hv rfl rfl
 refine ay.kM hv (h0 8193) rfl CV ?_
 refine ay.hole [1,1] ag (aG.bB hT mL hm 60 (eW++[7,8,10,11,35]) ad8 ag ⟨show 0<1 by omega,fun s' hv=>cF ?_⟩)
 refine ay.cond (b:=.tmp 35) (x:=vh) (y:=.skip) (xD hv rfl rfl) (fun h2=>?_) (fun h2=>ay.skip (by exact fin (long (iY (ls:=eW) (l:=[7,8,10,11,35]) (vs:=iR s) hv rfl rfl))))
 simp only[h2,if_true]at hv
 exact ak7 h0 hq hr hn hm' h1 h2 (iY (ls:=eW++[7,8,10,11]) (l:=[35]) (vs:=iR s++[.int .u64 (q.num.natAbs:Nat),.int .u64 (q.den:Nat),.int .u64 (r.num.natAbs:Nat),.int .u64 (r.den:Nat)]) hv rfl rfl)
  (fun s' h=>by exact fin h) (fun s' h=>by exact h)
end add
end Go.Am.B
