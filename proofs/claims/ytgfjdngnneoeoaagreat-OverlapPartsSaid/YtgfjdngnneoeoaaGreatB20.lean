/- rational.add, Add, Sub, Mul, Quo. -/
import Derived.Test.YtgfjdngnneoeoaaGreatB19
set_option linter.unusedVariables false
namespace Go.Am.B
open Go Go.Am.N AV Proofs.Tryz
theorem KU {b:Bool} {N D k:Nat} (hk:k≠0):sQ b (N*k) (D*k)=sQ b N D:=by
 unfold sQ
 have:gl b (N*k)=gl b N*(k:Int):=by unfold gl;split<;>simp[Int.neg_mul]
 rw[this,Rat.mkRat_mul_right hk]
theorem BF {a c:Int} {d:Nat} (hd:d≠0):mkRat a d+mkRat c d=mkRat (a+c) d:=by
 rw[Rat.mkRat_add_mkRat _ _ hd hd,<-Int.add_mul,Rat.mkRat_mul_right hd]
theorem C9 {s:Bool} {X Y D:Nat} (hD:D≠0):sQ s X D+sQ s Y D=sQ s (X+Y) D:=by
 unfold sQ
 rw[BF hD]
 congr 1
 unfold gl;split<;>simp<;>omega
theorem Co {b s:Bool} {X Y D:Nat} (hD:D≠0) (hb:b≠s) (h:Y<=X):sQ b X D+sQ s Y D=sQ b (X-Y) D:=by
 unfold sQ
 rw[BF hD]
 congr 1
 unfold gl
 cases b<;>cases s<;>simp at hb ⊢<;>omega
theorem Dv {b s:Bool} {X Y D:Nat} (hD:D≠0) (hb:b≠s) (h:X<=Y):sQ b X D+sQ s Y D=sQ s (Y-X) D:=by
 unfold sQ
 rw[BF hD]
 congr 1
 unfold gl
 cases b<;>cases s<;>simp at hb ⊢<;>omega
theorem QT {b s:Bool} {X Y:Nat}:gl b X*gl s Y=gl (b !=s) (X*Y):=by
 unfold gl
 cases b<;>cases s<;>simp[Int.neg_mul,Int.mul_neg]
theorem CF {b s:Bool} {X Y D E:Nat}:sQ b X D*sQ s Y E=sQ (b !=s) (X*Y) (D*E):=by
 unfold sQ
 rw[Rat.mkRat_mul_mkRat,QT]
theorem pO {q:Rat} (h:eG q=true):q.num.natAbs<4294967296/\q.den<4294967296:=by
 unfold eG at h
 simpa using h
theorem nN {a b:Nat} (ha:a<4294967296) (hb:b<4294967296):IntKind.u64.wrap ((a:Int)*(b:Int))=((a*b:Nat):Int)/\a*b<=18446744065119617025:=by
 have h:=Nat.mul_le_mul (show a<=4294967295 by omega) (show b<=4294967295 by omega)
 refine⟨?_,h⟩
 rw[show(a:Int)*(b:Int)=((a*b:Nat):Int) by simp,cw aa aa]
section add
variable {q r:Rat} {n m:Nat} {s:Bool}
theorem acO {f:Nat->AV} (hf:∀i,i<1->keys (f i)=[]) {b:Bool} {N D:Nat}:iP 8193 (oH b N D r m f):=⟨⟨aa,hf⟩,⟨aa,fun _ _=>rfl⟩,⟨aa,fun _ _=>rfl⟩,trivial⟩
theorem xT:iP 8193 (nv q r n m):=⟨⟨aa,fun _ _=>rfl⟩,⟨aa,fun _ _=>rfl⟩,⟨aa,fun _ _=>rfl⟩,trivial⟩
theorem DF (q r:Rat) (s:Bool):q+sQ s r.num.natAbs r.den=sQ (decide (q<0)) (q.num.natAbs*r.den) (q.den*r.den)+sQ s (r.num.natAbs*q.den) (q.den*r.den):=by
 rw[KU r.den_nz,kJ,Nat.mul_comm q.den,KU q.den_nz]
theorem NG {c:Ctx} (h0:∀nx k x,c.k0 k=some x->k<nx) (hq:Sz q n) (hr:Sz r m) (hn:n<2^42) (hm':m<2^42) {s':aK} (hv:bB ff s'=some (iV s,nv q r n m)):
  ay P c f89.ntmps nF s' (eU c (Fin T f89 (.rat (q+sQ s r.num.natAbs r.den) (n+m+1)))):=by
 obtain⟨a1,a2,a3⟩:=Sz.kq hq aa
 obtain⟨b1,b2,b3⟩:=Sz.kq hr aa
 have d1:=q.den_nz
 have d2:=r.den_nz
 have hz:Sz (q+sQ s r.num.natAbs r.den) (n+m+1):=hq.add (Al d2 hr.1 hr.2)
 have bx:∀{a b:Nat},a<2^n->b<2^m->nl (a*b)<2^40:=fun ha hb=>j4 (n:=n+m) (by rw[Nat.pow_add];exact Nat.mul_lt_mul'' ha hb) aa
 have last:∀{s':aK} {X Y D k:Nat},k<2^43->X<2^k->Y<2^k->nl D<2^40->D≠0->q+sQ s r.num.natAbs r.den=sQ (decide (q<0)) X D+sQ s Y D->bB (ff++[15,16,17]) s'=some (iV s++[.mag X,.mag Y,.mag D],nv q r n m)->
   aI P c f89.ntmps [part nF [1,1]] s' (eU c (Fin T f89 (.rat (q+sQ s r.num.natAbs r.den) (n+m+1)))):=by
  intro s' X Y D k hk hX2 hY2 hD hD0 heq hv
  have hX:=j4 hX2 aa
  have hY:=j4 hY2 aa
  have hXY:nl (X+Y)<2^40:=j4 (n:=k+1) (by rw[Nat.pow_succ];omega) aa
  refine aI.kA hT lI hm 60 hv (h0 _) rfl xT YQ ah rfl ?_
  simp only[ag.all,au,beq_iff_eq,beq_eq_false_iff_ne,ne_eq]
  refine⟨aa,fun hb=>⟨⟨hX,hY,hXY,hD,aa⟩,aa,en ?_ hz⟩,fun hb=>⟨⟨hX,hY⟩,fun hc=>⟨⟨aa,Nat.lt_of_le_of_lt (iC (Nat.sub_le _ _)) hX,hD,aa⟩,aa,en ?_ hz⟩,fun hc=>⟨⟨hY,hX⟩,⟨Nat.lt_of_le_of_lt (iC (Nat.sub_le _ _)) hY,hD,aa⟩,aa,en ?_ hz⟩⟩⟩
  ·rw[heq,hb,C9 hD0]
  ·rw[heq,Co hD0 hb (by split at hc<;>omega)]
  ·rw[heq,Dv hD0 hb (by split at hc<;>omega)]
 have mulb:∀{a b:Nat},a<2^n->b<2^m->a*b<2^(n+m):=fun ha hb=>by rw[Nat.pow_add];exact Nat.mul_lt_mul'' ha hb
 refine ay.hole [1,1] ah (aI.fE hT lI hm 60 hv (h0 _) rfl xT (ff++[15,16,17]) af7 ah rfl ?_)
 simp only[ag.all,au,Bool.not_eq_true',bG,Bool.not_eq_false',bz]
 have fin:∀{s':aK} {R:AV},aI P c f89.ntmps [part nF [1,1]] s' (eU c (Fin T f89 R))->ay P c f89.ntmps (part nF [1,1]) s' (ey (fun s''=>aI P c f89.ntmps (behind nF [1,1]) s'' (eU c (Fin T f89 R))) (eU c (Fin T f89 R))):=
  fun h=>ay.mono h fun e s' h=>by cases e<;>exact h
 refine⟨⟨aa,aa,aa⟩,⟨aa,aa,a3,b3⟩,fun hb=>⟨⟨aa,a1,b2,aa,b1,a2,aa,a2,b2⟩,fun s' hv=>cL (fin (last (k:=n+m) aa (mulb hq.1 hr.2) ?_ (bx hq.2 hr.2) (Nat.mul_ne_zero d1 d2) (DF q r s) hv))⟩,fun hb s' hv=>cL (fin (last (k:=n+m) aa (Nat.lt_of_lt_of_le hq.1 (Nat.pow_le_pow_right aa aa)) (Nat.lt_of_lt_of_le hr.1 (Nat.pow_le_pow_right aa aa)) a2 d1 ?_ hv))⟩
 ·rw[Nat.mul_comm];exact mulb hq.2 hr.1
 ·have:q.den=r.den:=by split at hb<;>split at hb<;>omega
  rw[<-this,kJ]
theorem YK {c:Ctx} (h0:∀nx k x,c.k0 k=some x->k<nx) (hq:Sz q n) (hr:Sz r m) (hn:n<2^42) (hm':m<2^42) (h1:eG q=true) (h2:eG r=true) {s':aK} {Q:aq->aK->Prop}
  (hv:bB (ff++[7,8,10,11]) s'=some (iV s++[.int .u64 (q.num.natAbs:Nat),.int .u64 (q.den:Nat),.int .u64 (r.num.natAbs:Nat),.int .u64 (r.den:Nat)],nv q r n m))
  (hN:∀s',ay P c f89.ntmps nF s' (eU c (Fin T f89 (.rat (q+sQ s r.num.natAbs r.den) (n+m+1))))->Q .normal s')
  (hR:∀s',eU c (Fin T f89 (.rat (q+sQ s r.num.natAbs r.den) (n+m+1))) .ret s'->Q .ret s'):ay P c f89.ntmps tr s' Q:=by
 have d1:=q.den_nz
 have d2:=r.den_nz
 have hz:Sz (q+sQ s r.num.natAbs r.den) (n+m+1):=hq.add (Al d2 hr.1 hr.2)
 obtain⟨q1,q2⟩:=pO h1
 obtain⟨r1,r2⟩:=pO h2
 have hval:=DF q r s
 obtain⟨b,hb⟩:∃b,decide (q<0)=b:=⟨_,rfl⟩
 rw[hb]at hval
 obtain⟨wx,bx⟩:=nN q1 r2
 obtain⟨wy,by'⟩:=nN r1 q2
 obtain⟨wd,bd⟩:=nN q2 r2
 have hd0:q.den*r.den≠0:=Nat.mul_ne_zero d1 d2
 have hk0:c.k0=bt:=by
  funext k
  cases hk:c.k0 k with
  |none=>rfl
  |some x=>have:=h0 0 k x hk;omega
 -- the end by short numbers
 have ret:∀{s':aK} {N D k:Nat} {z:Rat},z=q+sQ s r.num.natAbs r.den->bB ff s'=some (iV s,oH b N D r m fun j=>if j=0 then bE (.rat z k)else .rat 0 1)->Q .ret s':=by
  intro s' N D k z hzv hv
  refine hR _ (yN ahL hv (h0 8193) rfl (acO fun i _=>?_) ⟨show 0<1 by omega,en hzv hz⟩)
  split<;>rfl
 have back:∀{s':aK},bB ff s'=some (iV s,oH b q.num.natAbs (if q.den=1 then 0 else q.den) r m fun _=>.rat 0 1)->Q .normal s':=by
  intro s' hv
  refine hN _ (ay.lD (dI (vs:=iV s) (ps:=nv q r n m) (nx:=8193) [(0,0),(4096,4096),(8192,8192)] hv hk0 (by simp[jn]) ⟨aP,⟨rfl,ot rfl⟩,⟨rfl,ot rfl⟩,⟨rfl,ot rfl⟩,trivial⟩
   ⟨⟨_,_,rfl,rfl,jm rfl fun i _=>gu rfl⟩,⟨_,_,rfl,rfl,jm rfl fun i _=>gu rfl⟩,⟨_,_,rfl,rfl,jm rfl fun i _=>lg rfl ?_⟩,trivial⟩) ?_)
  ·rw[<-hb];exact Fg hq
  ·exact NG h0 hq hr hn hm' (s:=s) rfl
 refine ay.lD (dI (us:=[.bool s,.ptr 0 0 3 0 [],.ptr 4096 0 3 0 [],.ptr 8192 0 3 0 [],.int .u64 (q.num.natAbs:Nat),.int .u64 (q.den:Nat),.int .u64 (r.num.natAbs:Nat),.int .u64 (r.den:Nat)])
   (vs:=[.bool s,.ptr 0 0 3 0 [],.ptr 4096 0 3 0 [],.ptr 8192 0 3 0 [],.int .u64 (q.num.natAbs:Nat),.int .u64 (q.den:Nat),.int .u64 (r.num.natAbs:Nat),.int .u64 (r.den:Nat)]) (os:=nv q r n m) (ps:=oH b q.num.natAbs (if q.den=1 then 0 else q.den) r m fun _=>.rat 0 1) (nx:=8193) [(0,0),(4096,4096),(8192,8192)] hv hk0 (by simp[jn])
  ⟨aP,⟨rfl,ot rfl⟩,⟨rfl,ot rfl⟩,⟨rfl,ot rfl⟩,aP,aP,aP,aP,trivial⟩
  ⟨⟨_,_,rfl,rfl,jm rfl fun i _=>gu rfl⟩,⟨_,_,rfl,rfl,jm rfl fun i _=>gu rfl⟩,⟨_,_,rfl,rfl,jm rfl fun i _=>lg rfl (by rw[<-hb];exact Ib)⟩,trivial⟩) ?_
 have hD0:0<q.den*r.den:=aa
 have eqc:b=s->sQ s (q.num.natAbs*r.den+r.num.natAbs*q.den) (q.den*r.den)=q+sQ s r.num.natAbs r.den:=fun h=>by rw[hval,h,C9 hd0]
 have gec:b≠s->r.num.natAbs*q.den<=q.num.natAbs*r.den->sQ b (q.num.natAbs*r.den-r.num.natAbs*q.den) (q.den*r.den)=q+sQ s r.num.natAbs r.den:=fun h h'=>by rw[hval,Co hd0 h h']
 have ltc:b≠s->q.num.natAbs*r.den<=r.num.natAbs*q.den->sQ s (r.num.natAbs*q.den-q.num.natAbs*r.den) (q.den*r.den)=q+sQ s r.num.natAbs r.den:=fun h h'=>by rw[hval,Dv hd0 h h']
 clear hval hv hN hR h1 h2 hb
 generalize q+sQ s r.num.natAbs r.den=V at*
 generalize q.num.natAbs*r.den=X at*
 generalize r.num.natAbs*q.den=Y at*
 generalize q.den*r.den=D at*
 have ws:∀{a b:Nat},b<=a->a<=18446744065119617025->IntKind.u64.wrap ((a:Int)-(b:Int))=((a-b:Nat):Int):=fun {a b} h1 h2=>by rw[cw aa aa];omega
 cases b<;>cases s
 ·refine ay.bH hT lI hm 60 ff QX ah ?_
  rw[wx,wy,wd]
  simp only[ag.all,au,beq_iff_eq,br]
  refine⟨⟨aa,aa,aa⟩,aa,fun hc=>⟨⟨aa,aa,aa⟩,fun s' hv=>ret ?_ hv⟩,fun hc=>⟨aa,aa,fun s' hv=>back hv⟩⟩
  have h:=eq_of_beq (jC hc)
  have e:(((X:Int)+(Y:Int)+0)%18446744073709551616).toNat=X+Y:=aa
  rw[e];exact eqc rfl
 ·refine ay.bH hT lI hm 60 ff adf ah ?_
  rw[wx,wy,wd]
  simp only[ag.all,au,beq_iff_eq,br]
  refine⟨⟨aa,aa,aa⟩,aa,aa,fun hc=>?_,fun hc=>?_⟩
  ·have h:=of_decide_eq_true (jC hc)
   have h':Y<=X:=aa
   rw[ws h' bx]
   refine⟨⟨aa,aa,aa,aa⟩,fun s' hv=>ret ?_ hv⟩
   rw[br];exact gec (by simp) h'
  ·have h:=of_decide_eq_false (jC hc)
   have h':X<=Y:=aa
   rw[ws h' by']
   refine⟨aa,⟨aa,aa,aa⟩,fun s' hv=>ret ?_ hv⟩
   rw[br];exact ltc (by simp) h'
 ·refine ay.bH hT lI hm 60 ff Rp ah ?_
  rw[wx,wy,wd]
  simp only[ag.all,au,beq_iff_eq,br]
  refine⟨⟨aa,aa,aa⟩,aa,aa,fun hc=>?_,fun hc=>?_⟩
  ·have h:=of_decide_eq_true (jC hc)
   have h':Y<=X:=aa
   rw[ws h' bx]
   refine⟨⟨aa,aa,aa,aa⟩,fun s' hv=>ret ?_ hv⟩
   rw[br];exact gec (by simp) h'
  ·have h:=of_decide_eq_false (jC hc)
   have h':X<=Y:=aa
   rw[ws h' by']
   refine⟨aa,⟨aa,aa,aa⟩,fun s' hv=>ret ?_ hv⟩
   rw[br];exact ltc (by simp) h'
 ·refine ay.bH hT lI hm 60 ff WI ah ?_
  rw[wx,wy,wd]
  simp only[ag.all,au,beq_iff_eq,br]
  refine⟨⟨aa,aa,aa⟩,aa,fun hc=>⟨⟨aa,aa,aa⟩,fun s' hv=>ret ?_ hv⟩,fun hc=>⟨aa,aa,fun s' hv=>back hv⟩⟩
  have h:=eq_of_beq (jC hc)
  have e:(((X:Int)+(Y:Int)+0)%18446744073709551616).toNat=X+Y:=aa
  rw[e];exact eqc rfl
theorem UT (hn:n<2^42) (hm':m<2^42) (K:Nat) (pre:aD):aN P 89 K [.rat q n,.rat r m,.bool s] pre (aH (.rat (q+sQ s r.num.natAbs r.den) (n+m+1)) []):=by
 refine kP fun⟨hq,hr,_⟩=>?_
 have hq:Sz q n:=hq
 have hr:Sz r m:=hr
 refine jq hT SO rfl aW rfl (fun _ c h0=>?_) K pre
 have long:=fun {s':aK}=>NG (s:=s) (s':=s') h0 hq hr hn hm'
 have fin:∀{s':aK} {R:AV},ay P c f89.ntmps nF s' (eU c (Fin T f89 R))->ay P c f89.ntmps nF s' (ey (fun s''=>aI P c f89.ntmps (behind (aF f89) [1,1]) s'' (eU c (Fin T f89 R))) (eU c (Fin T f89 R))):=
  fun h=>ay.mono h fun e s' h=>by cases e<;>exact h
 refine ay.hole [1,1] ah (aI.chunk 1 (aI.bH hT lI hm 60 ff Zs ah fun s' hv=>cL ?_))
 show aI P c f89.ntmps [DX] s' _
 refine aI.j3 hv (h0 8193) rfl rfl xT ?_
 refine ay.hole [1,1] ah (aI.bH hT lI hm 60 (ff++[7,8,28]) acI ah ⟨show 0<1 by omega,fun s' hv=>cL ?_⟩)
 refine ay.cond (b:=.tmp 28) (x:=D0) (y:=.skip) (xp hv rfl rfl) (fun h1=>?_) (fun h1=>ay.skip (by exact fin (long (jI (ls:=ff) (l:=[7,8,28]) (vs:=iV s) hv rfl rfl))))
 simp only[h1,if_true]at hv
 have hv:=jI (ls:=ff++[7,8]) (l:=[28]) (vs:=iV s++[.int .u64 (q.num.natAbs:Nat),.int .u64 (q.den:Nat)]) hv rfl rfl
 refine ay.j3 hv (h0 8193) rfl xT ?_
 refine ay.hole [1,1] ah (aI.bH hT lI hm 60 (ff++[7,8,10,11,35]) aet ah ⟨show 0<1 by omega,fun s' hv=>cL ?_⟩)
 refine ay.cond (b:=.tmp 35) (x:=tr) (y:=.skip) (xp hv rfl rfl) (fun h2=>?_) (fun h2=>ay.skip (by exact fin (long (jI (ls:=ff) (l:=[7,8,10,11,35]) (vs:=iV s) hv rfl rfl))))
 simp only[h2,if_true]at hv
 exact YK h0 hq hr hn hm' h1 h2 (jI (ls:=ff++[7,8,10,11]) (l:=[35]) (vs:=iV s++[.int .u64 (q.num.natAbs:Nat),.int .u64 (q.den:Nat),.int .u64 (r.num.natAbs:Nat),.int .u64 (r.den:Nat)]) hv rfl rfl)
  (fun s' h=>by exact fin h) (fun s' h=>by exact h)
end add
end Go.Am.B
