/- rational.add, Add, Sub, Mul, Quo. -/
import Derived.Test.YtolopdkjjlfgjaaGreatB19
set_option linter.unusedVariables false
namespace Go.Am.B
open Go Go.Am.N AV Proofs.Tryz
theorem KF {b:Bool} {N D k:Nat} (hk:k≠0):sQ b (N*k) (D*k)=sQ b N D:=by
 unfold sQ
 have:fZ b (N*k)=fZ b N*(k:Int):=by unfold fZ;split<;>simp[Int.neg_mul]
 rw[this,Rat.mkRat_mul_right hk]
theorem Fs {a c:Int} {d:Nat} (hd:d≠0):mkRat a d+mkRat c d=mkRat (a+c) d:=by
 rw[Rat.mkRat_add_mkRat _ _ hd hd,<-Int.add_mul,Rat.mkRat_mul_right hd]
theorem ID {s:Bool} {X Y D:Nat} (hD:D≠0):sQ s X D+sQ s Y D=sQ s (X+Y) D:=by
 unfold sQ
 rw[Fs hD]
 congr 1
 unfold fZ;split<;>simp<;>omega
theorem Fe {b s:Bool} {X Y D:Nat} (hD:D≠0) (hb:b≠s) (h:Y<=X):sQ b X D+sQ s Y D=sQ b (X-Y) D:=by
 unfold sQ
 rw[Fs hD]
 congr 1
 unfold fZ
 cases b<;>cases s<;>simp at hb ⊢<;>omega
theorem D3 {b s:Bool} {X Y D:Nat} (hD:D≠0) (hb:b≠s) (h:X<=Y):sQ b X D+sQ s Y D=sQ s (Y-X) D:=by
 unfold sQ
 rw[Fs hD]
 congr 1
 unfold fZ
 cases b<;>cases s<;>simp at hb ⊢<;>omega
theorem WI {b s:Bool} {X Y:Nat}:fZ b X*fZ s Y=fZ (b !=s) (X*Y):=by
 unfold fZ
 cases b<;>cases s<;>simp[Int.neg_mul,Int.mul_neg]
theorem G9 {b s:Bool} {X Y D E:Nat}:sQ b X D*sQ s Y E=sQ (b !=s) (X*Y) (D*E):=by
 unfold sQ
 rw[Rat.mkRat_mul_mkRat,WI]
theorem rz {q:Rat} (h:fE q=true):q.num.natAbs<4294967296/\q.den<4294967296:=by
 unfold fE at h
 simpa using h
theorem qb {a b:Nat} (ha:a<4294967296) (hb:b<4294967296):IntKind.u64.wrap ((a:Int)*(b:Int))=((a*b:Nat):Int)/\a*b<=18446744065119617025:=by
 have h:=Nat.mul_le_mul (show a<=4294967295 by omega) (show b<=4294967295 by omega)
 refine⟨?_,h⟩
 rw[show(a:Int)*(b:Int)=((a*b:Nat):Int) by simp,cK aa aa]
section add
variable {q r:Rat} {n m:Nat} {s:Bool}
theorem Wo {f:Nat->AV} (hf:∀i,i<1->keys (f i)=[]) {b:Bool} {N D:Nat}:jv 8193 (qj b N D r m f):=⟨⟨aa,hf⟩,⟨aa,fun _ _=>rfl⟩,⟨aa,fun _ _=>rfl⟩,trivial⟩
theorem CV:jv 8193 (oQ q r n m):=⟨⟨aa,fun _ _=>rfl⟩,⟨aa,fun _ _=>rfl⟩,⟨aa,fun _ _=>rfl⟩,trivial⟩
theorem Gr (q r:Rat) (s:Bool):q+sQ s r.num.natAbs r.den=sQ (decide (q<0)) (q.num.natAbs*r.den) (q.den*r.den)+sQ s (r.num.natAbs*q.den) (q.den*r.den):=by
 rw[KF r.den_nz,mC,Nat.mul_comm q.den,KF q.den_nz]
theorem PO {c:Ctx} (h0:∀nx k x,c.k0 k=some x->k<nx) (hq:Sz q n) (hr:Sz r m) (hn:n<2^42) (hm':m<2^42) {s':aN} (hv:bE fR s'=some (jl s,oQ q r n m)):
  ax P c f164.ntmps oH s' (gq c (Fin T f164 (.rat (q+sQ s r.num.natAbs r.den) (n+m+1)))):=by
 obtain⟨a1,a2,a3⟩:=Sz.kU hq aa
 obtain⟨b1,b2,b3⟩:=Sz.kU hr aa
 have d1:=q.den_nz
 have d2:=r.den_nz
 have hz:Sz (q+sQ s r.num.natAbs r.den) (n+m+1):=hq.add (E1 d2 hr.1 hr.2)
 have bx:∀{a b:Nat},a<2^n->b<2^m->nl (a*b)<2^40:=fun ha hb=>lK (n:=n+m) (by rw[Nat.pow_add];exact Nat.mul_lt_mul'' ha hb) aa
 have last:∀{s':aN} {X Y D k:Nat},k<2^43->X<2^k->Y<2^k->nl D<2^40->D≠0->q+sQ s r.num.natAbs r.den=sQ (decide (q<0)) X D+sQ s Y D->bE (fR++[15,16,17]) s'=some (jl s++[.mag X,.mag Y,.mag D],oQ q r n m)->
   aG P c f164.ntmps [part oH [1,1]] s' (gq c (Fin T f164 (.rat (q+sQ s r.num.natAbs r.den) (n+m+1)))):=by
  intro s' X Y D k hk hX2 hY2 hD hD0 heq hv
  have hX:=lK hX2 aa
  have hY:=lK hY2 aa
  have hXY:nl (X+Y)<2^40:=lK (n:=k+1) (by rw[Nat.pow_succ];omega) aa
  refine aG.lO hT mL hm 60 hv (h0 _) rfl CV Y4 ah rfl ?_
  simp only[ag.all,az,beq_iff_eq,beq_eq_false_iff_ne,ne_eq]
  refine⟨aa,fun hb=>⟨⟨hX,hY,hXY,hD,aa⟩,aa,ej ?_ hz⟩,fun hb=>⟨⟨hX,hY⟩,fun hc=>⟨⟨aa,Nat.lt_of_le_of_lt (iW (Nat.sub_le _ _)) hX,hD,aa⟩,aa,ej ?_ hz⟩,fun hc=>⟨⟨hY,hX⟩,⟨Nat.lt_of_le_of_lt (iW (Nat.sub_le _ _)) hY,hD,aa⟩,aa,ej ?_ hz⟩⟩⟩
  ·rw[heq,hb,ID hD0]
  ·rw[heq,Fe hD0 hb (by split at hc<;>omega)]
  ·rw[heq,D3 hD0 hb (by split at hc<;>omega)]
 have mulb:∀{a b:Nat},a<2^n->b<2^m->a*b<2^(n+m):=fun ha hb=>by rw[Nat.pow_add];exact Nat.mul_lt_mul'' ha hb
 refine ax.hole [1,1] ah (aG.gl hT mL hm 60 hv (h0 _) rfl CV (fR++[15,16,17]) ako ah rfl ?_)
 simp only[ag.all,az,Bool.not_eq_true',bD,Bool.not_eq_false',bB]
 have fin:∀{s':aN} {R:AV},aG P c f164.ntmps [part oH [1,1]] s' (gq c (Fin T f164 R))->ax P c f164.ntmps (part oH [1,1]) s' (fI (fun s''=>aG P c f164.ntmps (behind oH [1,1]) s'' (gq c (Fin T f164 R))) (gq c (Fin T f164 R))):=
  fun h=>ax.mono h fun e s' h=>by cases e<;>exact h
 refine⟨⟨aa,aa,aa⟩,⟨aa,aa,a3,b3⟩,fun hb=>⟨⟨aa,a1,b2,aa,b1,a2,aa,a2,b2⟩,fun s' hv=>cZ (fin (last (k:=n+m) aa (mulb hq.1 hr.2) ?_ (bx hq.2 hr.2) (Nat.mul_ne_zero d1 d2) (Gr q r s) hv))⟩,fun hb s' hv=>cZ (fin (last (k:=n+m) aa (Nat.lt_of_lt_of_le hq.1 (Nat.pow_le_pow_right aa aa)) (Nat.lt_of_lt_of_le hr.1 (Nat.pow_le_pow_right aa aa)) a2 d1 ?_ hv))⟩
 ·rw[Nat.mul_comm];exact mulb hq.2 hr.1
 ·have:q.den=r.den:=by split at hb<;>split at hb<;>omega
  rw[<-this,mC]
theorem ag0 {c:Ctx} (h0:∀nx k x,c.k0 k=some x->k<nx) (hq:Sz q n) (hr:Sz r m) (hn:n<2^42) (hm':m<2^42) (h1:fE q=true) (h2:fE r=true) {s':aN} {Q:aq->aN->Prop}
  (hv:bE (fR++[7,8,10,11]) s'=some (jl s++[.int .u64 (q.num.natAbs:Nat),.int .u64 (q.den:Nat),.int .u64 (r.num.natAbs:Nat),.int .u64 (r.den:Nat)],oQ q r n m))
  (hN:∀s',ax P c f164.ntmps oH s' (gq c (Fin T f164 (.rat (q+sQ s r.num.natAbs r.den) (n+m+1))))->Q .normal s')
  (hR:∀s',gq c (Fin T f164 (.rat (q+sQ s r.num.natAbs r.den) (n+m+1))) .ret s'->Q .ret s'):ax P c f164.ntmps wH s' Q:=by
 have d1:=q.den_nz
 have d2:=r.den_nz
 have hz:Sz (q+sQ s r.num.natAbs r.den) (n+m+1):=hq.add (E1 d2 hr.1 hr.2)
 obtain⟨q1,q2⟩:=rz h1
 obtain⟨r1,r2⟩:=rz h2
 have hval:=Gr q r s
 obtain⟨b,hb⟩:∃b,decide (q<0)=b:=⟨_,rfl⟩
 rw[hb]at hval
 obtain⟨wx,bx⟩:=qb q1 r2
 obtain⟨wy,by'⟩:=qb r1 q2
 obtain⟨wd,bd⟩:=qb q2 r2
 have hd0:q.den*r.den≠0:=Nat.mul_ne_zero d1 d2
 have hk0:c.k0=bI:=by
  funext k
  cases hk:c.k0 k with
  |none=>rfl
  |some x=>have:=h0 0 k x hk;omega
 -- the end by short numbers
 have ret:∀{s':aN} {N D k:Nat} {z:Rat},z=q+sQ s r.num.natAbs r.den->bE fR s'=some (jl s,qj b N D r m fun j=>if j=0 then de (.rat z k)else .rat 0 1)->Q .ret s':=by
  intro s' N D k z hzv hv
  refine hR _ (yS adY hv (h0 8193) rfl (Wo fun i _=>?_) ⟨show 0<1 by omega,ej hzv hz⟩)
  split<;>rfl
 have back:∀{s':aN},bE fR s'=some (jl s,qj b q.num.natAbs (if q.den=1 then 0 else q.den) r m fun _=>.rat 0 1)->Q .normal s':=by
  intro s' hv
  refine hN _ (ax.nT (eG (vs:=jl s) (ps:=oQ q r n m) (nx:=8193) [(0,0),(4096,4096),(8192,8192)] hv hk0 (by simp[jb]) ⟨aS,⟨rfl,iL rfl⟩,⟨rfl,iL rfl⟩,⟨rfl,iL rfl⟩,trivial⟩
   ⟨⟨_,_,rfl,rfl,hH rfl fun i _=>fD rfl⟩,⟨_,_,rfl,rfl,hH rfl fun i _=>fD rfl⟩,⟨_,_,rfl,rfl,hH rfl fun i _=>iV rfl ?_⟩,trivial⟩) ?_)
  ·rw[<-hb];exact LC hq
  ·exact PO h0 hq hr hn hm' (s:=s) rfl
 refine ax.nT (eG (us:=[.bool s,.ptr 0 0 3 0 [],.ptr 4096 0 3 0 [],.ptr 8192 0 3 0 [],.int .u64 (q.num.natAbs:Nat),.int .u64 (q.den:Nat),.int .u64 (r.num.natAbs:Nat),.int .u64 (r.den:Nat)])
   (vs:=[.bool s,.ptr 0 0 3 0 [],.ptr 4096 0 3 0 [],.ptr 8192 0 3 0 [],.int .u64 (q.num.natAbs:Nat),.int .u64 (q.den:Nat),.int .u64 (r.num.natAbs:Nat),.int .u64 (r.den:Nat)]) (os:=oQ q r n m) (ps:=qj b q.num.natAbs (if q.den=1 then 0 else q.den) r m fun _=>.rat 0 1) (nx:=8193) [(0,0),(4096,4096),(8192,8192)] hv hk0 (by simp[jb])
  ⟨aS,⟨rfl,iL rfl⟩,⟨rfl,iL rfl⟩,⟨rfl,iL rfl⟩,aS,aS,aS,aS,trivial⟩
  ⟨⟨_,_,rfl,rfl,hH rfl fun i _=>fD rfl⟩,⟨_,_,rfl,rfl,hH rfl fun i _=>fD rfl⟩,⟨_,_,rfl,rfl,hH rfl fun i _=>iV rfl (by rw[<-hb];exact Jo)⟩,trivial⟩) ?_
 have hD0:0<q.den*r.den:=aa
 have eqc:b=s->sQ s (q.num.natAbs*r.den+r.num.natAbs*q.den) (q.den*r.den)=q+sQ s r.num.natAbs r.den:=fun h=>by rw[hval,h,ID hd0]
 have gec:b≠s->r.num.natAbs*q.den<=q.num.natAbs*r.den->sQ b (q.num.natAbs*r.den-r.num.natAbs*q.den) (q.den*r.den)=q+sQ s r.num.natAbs r.den:=fun h h'=>by rw[hval,Fe hd0 h h']
 have ltc:b≠s->q.num.natAbs*r.den<=r.num.natAbs*q.den->sQ s (r.num.natAbs*q.den-q.num.natAbs*r.den) (q.den*r.den)=q+sQ s r.num.natAbs r.den:=fun h h'=>by rw[hval,D3 hd0 h h']
 clear hval hv hN hR h1 h2 hb
 generalize q+sQ s r.num.natAbs r.den=V at*
 generalize q.num.natAbs*r.den=X at*
 generalize r.num.natAbs*q.den=Y at*
 generalize q.den*r.den=D at*
 have ws:∀{a b:Nat},b<=a->a<=18446744065119617025->IntKind.u64.wrap ((a:Int)-(b:Int))=((a-b:Nat):Int):=fun {a b} h1 h2=>by rw[cK aa aa];omega
 cases b<;>cases s
 ·refine ax.bO hT mL hm 60 fR ajB ah ?_
  rw[wx,wy,wd]
  simp only[ag.all,az,beq_iff_eq,bJ]
  refine⟨⟨aa,aa,aa⟩,aa,fun hc=>⟨⟨aa,aa,aa⟩,fun s' hv=>ret ?_ hv⟩,fun hc=>⟨aa,aa,fun s' hv=>back hv⟩⟩
  have h:=eq_of_beq (kE hc)
  have e:(((X:Int)+(Y:Int)+0)%18446744073709551616).toNat=X+Y:=aa
  rw[e];exact eqc rfl
 ·refine ax.bO hT mL hm 60 fR ad3 ah ?_
  rw[wx,wy,wd]
  simp only[ag.all,az,beq_iff_eq,bJ]
  refine⟨⟨aa,aa,aa⟩,aa,aa,fun hc=>?_,fun hc=>?_⟩
  ·have h:=of_decide_eq_true (kE hc)
   have h':Y<=X:=aa
   rw[ws h' bx]
   refine⟨⟨aa,aa,aa,aa⟩,fun s' hv=>ret ?_ hv⟩
   rw[bJ];exact gec (by simp) h'
  ·have h:=of_decide_eq_false (kE hc)
   have h':X<=Y:=aa
   rw[ws h' by']
   refine⟨aa,⟨aa,aa,aa⟩,fun s' hv=>ret ?_ hv⟩
   rw[bJ];exact ltc (by simp) h'
 ·refine ax.bO hT mL hm 60 fR TO ah ?_
  rw[wx,wy,wd]
  simp only[ag.all,az,beq_iff_eq,bJ]
  refine⟨⟨aa,aa,aa⟩,aa,aa,fun hc=>?_,fun hc=>?_⟩
  ·have h:=of_decide_eq_true (kE hc)
   have h':Y<=X:=aa
   rw[ws h' bx]
   refine⟨⟨aa,aa,aa,aa⟩,fun s' hv=>ret ?_ hv⟩
   rw[bJ];exact gec (by simp) h'
  ·have h:=of_decide_eq_false (kE hc)
   have h':X<=Y:=aa
   rw[ws h' by']
   refine⟨aa,⟨aa,aa,aa⟩,fun s' hv=>ret ?_ hv⟩
   rw[bJ];exact ltc (by simp) h'
 ·refine ax.bO hT mL hm 60 fR ahY ah ?_
  rw[wx,wy,wd]
  simp only[ag.all,az,beq_iff_eq,bJ]
  refine⟨⟨aa,aa,aa⟩,aa,fun hc=>⟨⟨aa,aa,aa⟩,fun s' hv=>ret ?_ hv⟩,fun hc=>⟨aa,aa,fun s' hv=>back hv⟩⟩
  have h:=eq_of_beq (kE hc)
  have e:(((X:Int)+(Y:Int)+0)%18446744073709551616).toNat=X+Y:=aa
  rw[e];exact eqc rfl
theorem aeK (hn:n<2^42) (hm':m<2^42) (K:Nat) (pre:aE):aQ P 164 K [.rat q n,.rat r m,.bool s] pre (aL (.rat (q+sQ s r.num.natAbs r.den) (n+m+1)) []):=by
 refine kS fun⟨hq,hr,_⟩=>?_
 have hq:Sz q n:=hq
 have hr:Sz r m:=hr
 refine iw hT Sg rfl aX rfl (fun _ c h0=>?_) K pre
 have long:=fun {s':aN}=>PO (s:=s) (s':=s') h0 hq hr hn hm'
 have fin:∀{s':aN} {R:AV},ax P c f164.ntmps oH s' (gq c (Fin T f164 R))->ax P c f164.ntmps oH s' (fI (fun s''=>aG P c f164.ntmps (behind (aH f164) [1,1]) s'' (gq c (Fin T f164 R))) (gq c (Fin T f164 R))):=
  fun h=>ax.mono h fun e s' h=>by cases e<;>exact h
 refine ax.hole [1,1] ah (aG.chunk 1 (aG.bO hT mL hm 60 fR ag4 ah fun s' hv=>cZ ?_))
 show aG P c f164.ntmps [G8] s' _
 refine aG.lz hv (h0 8193) rfl rfl CV ?_
 refine ax.hole [1,1] ah (aG.bO hT mL hm 60 (fR++[7,8,28]) aa9 ah ⟨show 0<1 by omega,fun s' hv=>cZ ?_⟩)
 refine ax.cond (b:=.tmp 28) (x:=II) (y:=.skip) (xp hv rfl rfl) (fun h1=>?_) (fun h1=>ax.skip (by exact fin (long (kn (ls:=fR) (l:=[7,8,28]) (vs:=jl s) hv rfl rfl))))
 simp only[h1,if_true]at hv
 have hv:=kn (ls:=fR++[7,8]) (l:=[28]) (vs:=jl s++[.int .u64 (q.num.natAbs:Nat),.int .u64 (q.den:Nat)]) hv rfl rfl
 refine ax.lz hv (h0 8193) rfl CV ?_
 refine ax.hole [1,1] ah (aG.bO hT mL hm 60 (fR++[7,8,10,11,35]) acO ah ⟨show 0<1 by omega,fun s' hv=>cZ ?_⟩)
 refine ax.cond (b:=.tmp 35) (x:=wH) (y:=.skip) (xp hv rfl rfl) (fun h2=>?_) (fun h2=>ax.skip (by exact fin (long (kn (ls:=fR) (l:=[7,8,10,11,35]) (vs:=jl s) hv rfl rfl))))
 simp only[h2,if_true]at hv
 exact ag0 h0 hq hr hn hm' h1 h2 (kn (ls:=fR++[7,8,10,11]) (l:=[35]) (vs:=jl s++[.int .u64 (q.num.natAbs:Nat),.int .u64 (q.den:Nat),.int .u64 (r.num.natAbs:Nat),.int .u64 (r.den:Nat)]) hv rfl rfl)
  (fun s' h=>by exact fin h) (fun s' h=>by exact h)
end add
end Go.Am.B
