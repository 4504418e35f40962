/- rational.add, Add, Sub, Mul, Quo. -/
import Derived.Test.YtolopdkjjlfgjaaGreatB19
set_option linter.unusedVariables false
namespace Go.Am.B
open Go Go.Am.N AV Proofs.Tryz
theorem N7 {b:Bool} {N D k:Nat} (hk:k≠0):sQ b (N*k) (D*k)=sQ b N D:=by
 unfold sQ
 have:gk b (N*k)=gk b N*(k:Int):=by unfold gk;split<;>simp[Int.neg_mul]
 rw[this,Rat.mkRat_mul_right hk]
theorem ES {a c:Int} {d:Nat} (hd:d≠0):mkRat a d+mkRat c d=mkRat (a+c) d:=by
 rw[Rat.mkRat_add_mkRat _ _ hd hd,<-Int.add_mul,Rat.mkRat_mul_right hd]
theorem ET {s:Bool} {X Y D:Nat} (hD:D≠0):sQ s X D+sQ s Y D=sQ s (X+Y) D:=by
 unfold sQ
 rw[ES hD]
 congr 1
 unfold gk;split<;>simp<;>omega
theorem Fl {b s:Bool} {X Y D:Nat} (hD:D≠0) (hb:b≠s) (h:Y<=X):sQ b X D+sQ s Y D=sQ b (X-Y) D:=by
 unfold sQ
 rw[ES hD]
 congr 1
 unfold gk
 cases b<;>cases s<;>simp at hb ⊢<;>omega
theorem C0 {b s:Bool} {X Y D:Nat} (hD:D≠0) (hb:b≠s) (h:X<=Y):sQ b X D+sQ s Y D=sQ s (Y-X) D:=by
 unfold sQ
 rw[ES hD]
 congr 1
 unfold gk
 cases b<;>cases s<;>simp at hb ⊢<;>omega
theorem acO {b s:Bool} {X Y:Nat}:gk b X*gk s Y=gk (b !=s) (X*Y):=by
 unfold gk
 cases b<;>cases s<;>simp[Int.neg_mul,Int.mul_neg]
theorem G5 {b s:Bool} {X Y D E:Nat}:sQ b X D*sQ s Y E=sQ (b !=s) (X*Y) (D*E):=by
 unfold sQ
 rw[Rat.mkRat_mul_mkRat,acO]
theorem rD {q:Rat} (h:fB q=true):q.num.natAbs<4294967296/\q.den<4294967296:=by
 unfold fB at h
 simpa using h
theorem pP {a b:Nat} (ha:a<4294967296) (hb:b<4294967296):IntKind.u64.wrap ((a:Int)*(b:Int))=((a*b:Nat):Int)/\a*b<=18446744065119617025:=by
 have h:=Nat.mul_le_mul (show a<=4294967295 by omega) (show b<=4294967295 by omega)
 refine⟨?_,h⟩
 rw[show(a:Int)*(b:Int)=((a*b:Nat):Int) by simp,cG aa aa]
section add
variable {q r:Rat} {n m:Nat} {s:Bool}
theorem acs {f:Nat->AV} (hf:∀i,i<1->keys (f i)=[]) {b:Bool} {N D:Nat}:jA 8193 (p5 b N D r m f):=⟨⟨aa,hf⟩,⟨aa,fun _ _=>rfl⟩,⟨aa,fun _ _=>rfl⟩,trivial⟩
theorem Br:jA 8193 (o5 q r n m):=⟨⟨aa,fun _ _=>rfl⟩,⟨aa,fun _ _=>rfl⟩,⟨aa,fun _ _=>rfl⟩,trivial⟩
theorem EB (q r:Rat) (s:Bool):q+sQ s r.num.natAbs r.den=sQ (decide (q<0)) (q.num.natAbs*r.den) (q.den*r.den)+sQ s (r.num.natAbs*q.den) (q.den*r.den):=by
 rw[N7 r.den_nz,mF,Nat.mul_comm q.den,N7 q.den_nz]
theorem K0 {c:Ctx} (h0:∀nx k x,c.k0 k=some x->k<nx) (hq:Sz q n) (hr:Sz r m) (hn:n<2^42) (hm':m<2^42) {s':aL} (hv:bp fV s'=some (jF s,o5 q r n m)):
  aA P c f164.ntmps pz s' (gv c (Fin T f164 (.rat (q+sQ s r.num.natAbs r.den) (n+m+1)))):=by
 obtain⟨a1,a2,a3⟩:=Sz.lD hq aa
 obtain⟨b1,b2,b3⟩:=Sz.lD hr aa
 have d1:=q.den_nz
 have d2:=r.den_nz
 have hz:Sz (q+sQ s r.num.natAbs r.den) (n+m+1):=hq.add (Ev d2 hr.1 hr.2)
 have bx:∀{a b:Nat},a<2^n->b<2^m->nl (a*b)<2^40:=fun ha hb=>mb (n:=n+m) (by rw[Nat.pow_add];exact Nat.mul_lt_mul'' ha hb) aa
 have last:∀{s':aL} {X Y D k:Nat},k<2^43->X<2^k->Y<2^k->nl D<2^40->D≠0->q+sQ s r.num.natAbs r.den=sQ (decide (q<0)) X D+sQ s Y D->bp (fV++[15,16,17]) s'=some (jF s++[.mag X,.mag Y,.mag D],o5 q r n m)->
   aI P c f164.ntmps [part pz [1,1]] s' (gv c (Fin T f164 (.rat (q+sQ s r.num.natAbs r.den) (n+m+1)))):=by
  intro s' X Y D k hk hX2 hY2 hD hD0 heq hv
  have hX:=mb hX2 aa
  have hY:=mb hY2 aa
  have hXY:nl (X+Y)<2^40:=mb (n:=k+1) (by rw[Nat.pow_succ];omega) aa
  refine aI.lU hT nB hm 60 hv (h0 _) rfl Br RI ah rfl ?_
  simp only[af.all,aF,beq_iff_eq,beq_eq_false_iff_ne,ne_eq]
  refine⟨aa,fun hb=>⟨⟨hX,hY,hXY,hD,aa⟩,aa,fO ?_ hz⟩,fun hb=>⟨⟨hX,hY⟩,fun hc=>⟨⟨aa,Nat.lt_of_le_of_lt (jt (Nat.sub_le _ _)) hX,hD,aa⟩,aa,fO ?_ hz⟩,fun hc=>⟨⟨hY,hX⟩,⟨Nat.lt_of_le_of_lt (jt (Nat.sub_le _ _)) hY,hD,aa⟩,aa,fO ?_ hz⟩⟩⟩
  ·rw[heq,hb,ET hD0]
  ·rw[heq,Fl hD0 hb (by split at hc<;>omega)]
  ·rw[heq,C0 hD0 hb (by split at hc<;>omega)]
 have mulb:∀{a b:Nat},a<2^n->b<2^m->a*b<2^(n+m):=fun ha hb=>by rw[Nat.pow_add];exact Nat.mul_lt_mul'' ha hb
 refine aA.hole [1,1] ah (aI.gC hT nB hm 60 hv (h0 _) rfl Br (fV++[15,16,17]) afM ah rfl ?_)
 simp only[af.all,aF,Bool.not_eq_true',bO,Bool.not_eq_false',bI]
 have fin:∀{s':aL} {R:AV},aI P c f164.ntmps [part pz [1,1]] s' (gv c (Fin T f164 R))->aA P c f164.ntmps (part pz [1,1]) s' (fM (fun s''=>aI P c f164.ntmps (behind pz [1,1]) s'' (gv c (Fin T f164 R))) (gv c (Fin T f164 R))):=
  fun h=>aA.mono h fun e s' h=>by cases e<;>exact h
 refine⟨⟨aa,aa,aa⟩,⟨aa,aa,a3,b3⟩,fun hb=>⟨⟨aa,a1,b2,aa,b1,a2,aa,a2,b2⟩,fun s' hv=>cU (fin (last (k:=n+m) aa (mulb hq.1 hr.2) ?_ (bx hq.2 hr.2) (Nat.mul_ne_zero d1 d2) (EB q r s) hv))⟩,fun hb s' hv=>cU (fin (last (k:=n+m) aa (Nat.lt_of_lt_of_le hq.1 (Nat.pow_le_pow_right aa aa)) (Nat.lt_of_lt_of_le hr.1 (Nat.pow_le_pow_right aa aa)) a2 d1 ?_ hv))⟩
 ·rw[Nat.mul_comm];exact mulb hq.2 hr.1
 ·have:q.den=r.den:=by split at hb<;>split at hb<;>omega
  rw[<-this,mF]
theorem UG {c:Ctx} (h0:∀nx k x,c.k0 k=some x->k<nx) (hq:Sz q n) (hr:Sz r m) (hn:n<2^42) (hm':m<2^42) (h1:fB q=true) (h2:fB r=true) {s':aL} {Q:au->aL->Prop}
  (hv:bp (fV++[7,8,10,11]) s'=some (jF s++[.int .u64 (q.num.natAbs:Nat),.int .u64 (q.den:Nat),.int .u64 (r.num.natAbs:Nat),.int .u64 (r.den:Nat)],o5 q r n m))
  (hN:∀s',aA P c f164.ntmps pz s' (gv c (Fin T f164 (.rat (q+sQ s r.num.natAbs r.den) (n+m+1))))->Q .normal s')
  (hR:∀s',gv c (Fin T f164 (.rat (q+sQ s r.num.natAbs r.den) (n+m+1))) .ret s'->Q .ret s'):aA P c f164.ntmps uH s' Q:=by
 have d1:=q.den_nz
 have d2:=r.den_nz
 have hz:Sz (q+sQ s r.num.natAbs r.den) (n+m+1):=hq.add (Ev d2 hr.1 hr.2)
 obtain⟨q1,q2⟩:=rD h1
 obtain⟨r1,r2⟩:=rD h2
 have hval:=EB q r s
 obtain⟨b,hb⟩:∃b,decide (q<0)=b:=⟨_,rfl⟩
 rw[hb]at hval
 obtain⟨wx,bx⟩:=pP q1 r2
 obtain⟨wy,by'⟩:=pP r1 q2
 obtain⟨wd,bd⟩:=pP q2 r2
 have hd0:q.den*r.den≠0:=Nat.mul_ne_zero d1 d2
 have hk0:c.k0=bz:=by
  funext k
  cases hk:c.k0 k with
  |none=>rfl
  |some x=>have:=h0 0 k x hk;omega
 -- the end by short numbers
 have ret:∀{s':aL} {N D k:Nat} {z:Rat},z=q+sQ s r.num.natAbs r.den->bp fV s'=some (jF s,p5 b N D r m fun j=>if j=0 then dM (.rat z k)else .rat 0 1)->Q .ret s':=by
  intro s' N D k z hzv hv
  refine hR _ (xV Z9 hv (h0 8193) rfl (acs fun i _=>?_) ⟨show 0<1 by omega,fO hzv hz⟩)
  split<;>rfl
 have back:∀{s':aL},bp fV s'=some (jF s,p5 b q.num.natAbs (if q.den=1 then 0 else q.den) r m fun _=>.rat 0 1)->Q .normal s':=by
  intro s' hv
  refine hN _ (aA.mE (eC (vs:=jF s) (ps:=o5 q r n m) (nx:=8193) [(0,0),(4096,4096),(8192,8192)] hv hk0 (by simp[jB]) ⟨aU,⟨rfl,lG rfl⟩,⟨rfl,lG rfl⟩,⟨rfl,lG rfl⟩,trivial⟩
   ⟨⟨_,_,rfl,rfl,jj rfl fun i _=>jS rfl⟩,⟨_,_,rfl,rfl,jj rfl fun i _=>jS rfl⟩,⟨_,_,rfl,rfl,jj rfl fun i _=>jN rfl ?_⟩,trivial⟩) ?_)
  ·rw[<-hb];exact Mo hq
  ·exact K0 h0 hq hr hn hm' (s:=s) rfl
 refine aA.mE (eC (us:=[.bool s,.ptr 0 0 3 0 [],.ptr 4096 0 3 0 [],.ptr 8192 0 3 0 [],.int .u64 (q.num.natAbs:Nat),.int .u64 (q.den:Nat),.int .u64 (r.num.natAbs:Nat),.int .u64 (r.den:Nat)])
   (vs:=[.bool s,.ptr 0 0 3 0 [],.ptr 4096 0 3 0 [],.ptr 8192 0 3 0 [],.int .u64 (q.num.natAbs:Nat),.int .u64 (q.den:Nat),.int .u64 (r.num.natAbs:Nat),.int .u64 (r.den:Nat)]) (os:=o5 q r n m) (ps:=p5 b q.num.natAbs (if q.den=1 then 0 else q.den) r m fun _=>.rat 0 1) (nx:=8193) [(0,0),(4096,4096),(8192,8192)] hv hk0 (by simp[jB])
  ⟨aU,⟨rfl,lG rfl⟩,⟨rfl,lG rfl⟩,⟨rfl,lG rfl⟩,aU,aU,aU,aU,trivial⟩
  ⟨⟨_,_,rfl,rfl,jj rfl fun i _=>jS rfl⟩,⟨_,_,rfl,rfl,jj rfl fun i _=>jS rfl⟩,⟨_,_,rfl,rfl,jj rfl fun i _=>jN rfl (by rw[<-hb];exact Og)⟩,trivial⟩) ?_
 have hD0:0<q.den*r.den:=aa
 have eqc:b=s->sQ s (q.num.natAbs*r.den+r.num.natAbs*q.den) (q.den*r.den)=q+sQ s r.num.natAbs r.den:=fun h=>by rw[hval,h,ET hd0]
 have gec:b≠s->r.num.natAbs*q.den<=q.num.natAbs*r.den->sQ b (q.num.natAbs*r.den-r.num.natAbs*q.den) (q.den*r.den)=q+sQ s r.num.natAbs r.den:=fun h h'=>by rw[hval,Fl hd0 h h']
 have ltc:b≠s->q.num.natAbs*r.den<=r.num.natAbs*q.den->sQ s (r.num.natAbs*q.den-q.num.natAbs*r.den) (q.den*r.den)=q+sQ s r.num.natAbs r.den:=fun h h'=>by rw[hval,C0 hd0 h h']
 clear hval hv hN hR h1 h2 hb
 generalize q+sQ s r.num.natAbs r.den=V at*
 generalize q.num.natAbs*r.den=X at*
 generalize r.num.natAbs*q.den=Y at*
 generalize q.den*r.den=D at*
 have ws:∀{a b:Nat},b<=a->a<=18446744065119617025->IntKind.u64.wrap ((a:Int)-(b:Int))=((a-b:Nat):Int):=fun {a b} h1 h2=>by rw[cG aa aa];omega
 cases b<;>cases s
 ·refine aA.bM hT nB hm 60 fV abP ah ?_
  rw[wx,wy,wd]
  simp only[af.all,aF,beq_iff_eq,bJ]
  refine⟨⟨aa,aa,aa⟩,aa,fun hc=>⟨⟨aa,aa,aa⟩,fun s' hv=>ret ?_ hv⟩,fun hc=>⟨aa,aa,fun s' hv=>back hv⟩⟩
  have h:=eq_of_beq (kP hc)
  have e:(((X:Int)+(Y:Int)+0)%18446744073709551616).toNat=X+Y:=aa
  rw[e];exact eqc rfl
 ·refine aA.bM hT nB hm 60 fV RV ah ?_
  rw[wx,wy,wd]
  simp only[af.all,aF,beq_iff_eq,bJ]
  refine⟨⟨aa,aa,aa⟩,aa,aa,fun hc=>?_,fun hc=>?_⟩
  ·have h:=of_decide_eq_true (kP hc)
   have h':Y<=X:=aa
   rw[ws h' bx]
   refine⟨⟨aa,aa,aa,aa⟩,fun s' hv=>ret ?_ hv⟩
   rw[bJ];exact gec (by simp) h'
  ·have h:=of_decide_eq_false (kP hc)
   have h':X<=Y:=aa
   rw[ws h' by']
   refine⟨aa,⟨aa,aa,aa⟩,fun s' hv=>ret ?_ hv⟩
   rw[bJ];exact ltc (by simp) h'
 ·refine aA.bM hT nB hm 60 fV SF ah ?_
  rw[wx,wy,wd]
  simp only[af.all,aF,beq_iff_eq,bJ]
  refine⟨⟨aa,aa,aa⟩,aa,aa,fun hc=>?_,fun hc=>?_⟩
  ·have h:=of_decide_eq_true (kP hc)
   have h':Y<=X:=aa
   rw[ws h' bx]
   refine⟨⟨aa,aa,aa,aa⟩,fun s' hv=>ret ?_ hv⟩
   rw[bJ];exact gec (by simp) h'
  ·have h:=of_decide_eq_false (kP hc)
   have h':X<=Y:=aa
   rw[ws h' by']
   refine⟨aa,⟨aa,aa,aa⟩,fun s' hv=>ret ?_ hv⟩
   rw[bJ];exact ltc (by simp) h'
 ·refine aA.bM hT nB hm 60 fV V7 ah ?_
  rw[wx,wy,wd]
  simp only[af.all,aF,beq_iff_eq,bJ]
  refine⟨⟨aa,aa,aa⟩,aa,fun hc=>⟨⟨aa,aa,aa⟩,fun s' hv=>ret ?_ hv⟩,fun hc=>⟨aa,aa,fun s' hv=>back hv⟩⟩
  have h:=eq_of_beq (kP hc)
  have e:(((X:Int)+(Y:Int)+0)%18446744073709551616).toNat=X+Y:=aa
  rw[e];exact eqc rfl
theorem PF (hn:n<2^42) (hm':m<2^42) (K:Nat) (pre:aG):aY P 164 K [.rat q n,.rat r m,.bool s] pre (aT (.rat (q+sQ s r.num.natAbs r.den) (n+m+1)) []):=by
 refine lX fun⟨hq,hr,_⟩=>?_
 have hq:Sz q n:=hq
 have hr:Sz r m:=hr
 refine ja hT afk rfl br rfl (fun _ c h0=>?_) K pre
 have long:=fun {s':aL}=>K0 (s:=s) (s':=s') h0 hq hr hn hm'
 have fin:∀{s':aL} {R:AV},aA P c f164.ntmps pz s' (gv c (Fin T f164 R))->aA P c f164.ntmps pz s' (fM (fun s''=>aI P c f164.ntmps (behind (aJ f164) [1,1]) s'' (gv c (Fin T f164 R))) (gv c (Fin T f164 R))):=
  fun h=>aA.mono h fun e s' h=>by cases e<;>exact h
 refine aA.hole [1,1] ah (aI.chunk 1 (aI.bM hT nB hm 60 fV Yi ah fun s' hv=>cU ?_))
 show aI P c f164.ntmps [FF] s' _
 refine aI.me hv (h0 8193) rfl rfl Br ?_
 refine aA.hole [1,1] ah (aI.bM hT nB hm 60 (fV++[7,8,28]) XU ah ⟨show 0<1 by omega,fun s' hv=>cU ?_⟩)
 refine aA.cond (b:=.tmp 28) (x:=Ge) (y:=.skip) (xX hv rfl rfl) (fun h1=>?_) (fun h1=>aA.skip (by exact fin (long (kK (ls:=fV) (l:=[7,8,28]) (vs:=jF s) hv rfl rfl))))
 simp only[h1,if_true]at hv
 have hv:=kK (ls:=fV++[7,8]) (l:=[28]) (vs:=jF s++[.int .u64 (q.num.natAbs:Nat),.int .u64 (q.den:Nat)]) hv rfl rfl
 refine aA.me hv (h0 8193) rfl Br ?_
 refine aA.hole [1,1] ah (aI.bM hT nB hm 60 (fV++[7,8,10,11,35]) SC ah ⟨show 0<1 by omega,fun s' hv=>cU ?_⟩)
 refine aA.cond (b:=.tmp 35) (x:=uH) (y:=.skip) (xX hv rfl rfl) (fun h2=>?_) (fun h2=>aA.skip (by exact fin (long (kK (ls:=fV) (l:=[7,8,10,11,35]) (vs:=jF s) hv rfl rfl))))
 simp only[h2,if_true]at hv
 exact UG h0 hq hr hn hm' h1 h2 (kK (ls:=fV++[7,8,10,11]) (l:=[35]) (vs:=jF s++[.int .u64 (q.num.natAbs:Nat),.int .u64 (q.den:Nat),.int .u64 (r.num.natAbs:Nat),.int .u64 (r.den:Nat)]) hv rfl rfl)
  (fun s' h=>by exact fin h) (fun s' h=>by exact h)
end add
end Go.Am.B
