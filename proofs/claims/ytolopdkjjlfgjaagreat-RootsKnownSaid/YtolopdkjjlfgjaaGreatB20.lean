/- rational.add, Add, Sub, Mul, Quo. -/
import Derived.Test.YtolopdkjjlfgjaaGreatB19
set_option linter.unusedVariables false
namespace Go.Am.B
open Go Go.Am.N AV Proofs.Tryz
theorem LG {b:Bool} {N D k:Nat} (hk:k≠0):sQ b (N*k) (D*k)=sQ b N D:=by
 unfold sQ
 have:gu b (N*k)=gu b N*(k:Int):=by unfold gu;split<;>simp[Int.neg_mul]
 rw[this,Rat.mkRat_mul_right hk]
theorem EY {a c:Int} {d:Nat} (hd:d≠0):mkRat a d+mkRat c d=mkRat (a+c) d:=by
 rw[Rat.mkRat_add_mkRat _ _ hd hd,<-Int.add_mul,Rat.mkRat_mul_right hd]
theorem Gh {s:Bool} {X Y D:Nat} (hD:D≠0):sQ s X D+sQ s Y D=sQ s (X+Y) D:=by
 unfold sQ
 rw[EY hD]
 congr 1
 unfold gu;split<;>simp<;>omega
theorem Fm {b s:Bool} {X Y D:Nat} (hD:D≠0) (hb:b≠s) (h:Y<=X):sQ b X D+sQ s Y D=sQ b (X-Y) D:=by
 unfold sQ
 rw[EY hD]
 congr 1
 unfold gu
 cases b<;>cases s<;>simp at hb ⊢<;>omega
theorem DR {b s:Bool} {X Y D:Nat} (hD:D≠0) (hb:b≠s) (h:X<=Y):sQ b X D+sQ s Y D=sQ s (Y-X) D:=by
 unfold sQ
 rw[EY hD]
 congr 1
 unfold gu
 cases b<;>cases s<;>simp at hb ⊢<;>omega
theorem aae {b s:Bool} {X Y:Nat}:gu b X*gu s Y=gu (b !=s) (X*Y):=by
 unfold gu
 cases b<;>cases s<;>simp[Int.neg_mul,Int.mul_neg]
theorem EE {b s:Bool} {X Y D E:Nat}:sQ b X D*sQ s Y E=sQ (b !=s) (X*Y) (D*E):=by
 unfold sQ
 rw[Rat.mkRat_mul_mkRat,aae]
theorem ri {q:Rat} (h:fC q=true):q.num.natAbs<4294967296/\q.den<4294967296:=by
 unfold fC at h
 simpa using h
theorem ql {a b:Nat} (ha:a<4294967296) (hb:b<4294967296):IntKind.u64.wrap ((a:Int)*(b:Int))=((a*b:Nat):Int)/\a*b<=18446744065119617025:=by
 have h:=Nat.mul_le_mul (show a<=4294967295 by omega) (show b<=4294967295 by omega)
 refine⟨?_,h⟩
 rw[show(a:Int)*(b:Int)=((a*b:Nat):Int) by simp,cI aa aa]
section add
variable {q r:Rat} {n m:Nat} {s:Bool}
theorem Zo {f:Nat->AV} (hf:∀i,i<1->keys (f i)=[]) {b:Bool} {N D:Nat}:jD 8193 (p5 b N D r m f):=⟨⟨aa,hf⟩,⟨aa,fun _ _=>rfl⟩,⟨aa,fun _ _=>rfl⟩,trivial⟩
theorem AT:jD 8193 (oJ q r n m):=⟨⟨aa,fun _ _=>rfl⟩,⟨aa,fun _ _=>rfl⟩,⟨aa,fun _ _=>rfl⟩,trivial⟩
theorem G3 (q r:Rat) (s:Bool):q+sQ s r.num.natAbs r.den=sQ (decide (q<0)) (q.num.natAbs*r.den) (q.den*r.den)+sQ s (r.num.natAbs*q.den) (q.den*r.den):=by
 rw[LG r.den_nz,mB,Nat.mul_comm q.den,LG q.den_nz]
theorem ND {c:Ctx} (h0:∀nx k x,c.k0 k=some x->k<nx) (hq:Sz q n) (hr:Sz r m) (hn:n<2^42) (hm':m<2^42) {s':aL} (hv:bp fU s'=some (jC s,oJ q r n m)):
  aA P c f164.ntmps pn s' (gv c (Fin T f164 (.rat (q+sQ s r.num.natAbs r.den) (n+m+1)))):=by
 obtain⟨a1,a2,a3⟩:=Sz.lG hq aa
 obtain⟨b1,b2,b3⟩:=Sz.lG hr aa
 have d1:=q.den_nz
 have d2:=r.den_nz
 have hz:Sz (q+sQ s r.num.natAbs r.den) (n+m+1):=hq.add (Dn d2 hr.1 hr.2)
 have bx:∀{a b:Nat},a<2^n->b<2^m->nl (a*b)<2^40:=fun ha hb=>lY (n:=n+m) (by rw[Nat.pow_add];exact Nat.mul_lt_mul'' ha hb) aa
 have last:∀{s':aL} {X Y D k:Nat},k<2^43->X<2^k->Y<2^k->nl D<2^40->D≠0->q+sQ s r.num.natAbs r.den=sQ (decide (q<0)) X D+sQ s Y D->bp (fU++[15,16,17]) s'=some (jC s++[.mag X,.mag Y,.mag D],oJ q r n m)->
   aI P c f164.ntmps [part pn [1,1]] s' (gv c (Fin T f164 (.rat (q+sQ s r.num.natAbs r.den) (n+m+1)))):=by
  intro s' X Y D k hk hX2 hY2 hD hD0 heq hv
  have hX:=lY hX2 aa
  have hY:=lY hY2 aa
  have hXY:nl (X+Y)<2^40:=lY (n:=k+1) (by rw[Nat.pow_succ];omega) aa
  refine aI.l6 hT mY hm 60 hv (h0 _) rfl AT Wx ah rfl ?_
  simp only[af.all,aF,beq_iff_eq,beq_eq_false_iff_ne,ne_eq]
  refine⟨aa,fun hb=>⟨⟨hX,hY,hXY,hD,aa⟩,aa,fL ?_ hz⟩,fun hb=>⟨⟨hX,hY⟩,fun hc=>⟨⟨aa,Nat.lt_of_le_of_lt (jo (Nat.sub_le _ _)) hX,hD,aa⟩,aa,fL ?_ hz⟩,fun hc=>⟨⟨hY,hX⟩,⟨Nat.lt_of_le_of_lt (jo (Nat.sub_le _ _)) hY,hD,aa⟩,aa,fL ?_ hz⟩⟩⟩
  ·rw[heq,hb,Gh hD0]
  ·rw[heq,Fm hD0 hb (by split at hc<;>omega)]
  ·rw[heq,DR hD0 hb (by split at hc<;>omega)]
 have mulb:∀{a b:Nat},a<2^n->b<2^m->a*b<2^(n+m):=fun ha hb=>by rw[Nat.pow_add];exact Nat.mul_lt_mul'' ha hb
 refine aA.hole [1,1] ah (aI.gC hT mY hm 60 hv (h0 _) rfl AT (fU++[15,16,17]) XQ ah rfl ?_)
 simp only[af.all,aF,Bool.not_eq_true',bO,Bool.not_eq_false',bI]
 have fin:∀{s':aL} {R:AV},aI P c f164.ntmps [part pn [1,1]] s' (gv c (Fin T f164 R))->aA P c f164.ntmps (part pn [1,1]) s' (fQ (fun s''=>aI P c f164.ntmps (behind pn [1,1]) s'' (gv c (Fin T f164 R))) (gv c (Fin T f164 R))):=
  fun h=>aA.mono h fun e s' h=>by cases e<;>exact h
 refine⟨⟨aa,aa,aa⟩,⟨aa,aa,a3,b3⟩,fun hb=>⟨⟨aa,a1,b2,aa,b1,a2,aa,a2,b2⟩,fun s' hv=>cT (fin (last (k:=n+m) aa (mulb hq.1 hr.2) ?_ (bx hq.2 hr.2) (Nat.mul_ne_zero d1 d2) (G3 q r s) hv))⟩,fun hb s' hv=>cT (fin (last (k:=n+m) aa (Nat.lt_of_lt_of_le hq.1 (Nat.pow_le_pow_right aa aa)) (Nat.lt_of_lt_of_le hr.1 (Nat.pow_le_pow_right aa aa)) a2 d1 ?_ hv))⟩
 ·rw[Nat.mul_comm];exact mulb hq.2 hr.1
 ·have:q.den=r.den:=by split at hb<;>split at hb<;>omega
  rw[<-this,mB]
theorem VJ {c:Ctx} (h0:∀nx k x,c.k0 k=some x->k<nx) (hq:Sz q n) (hr:Sz r m) (hn:n<2^42) (hm':m<2^42) (h1:fC q=true) (h2:fC r=true) {s':aL} {Q:au->aL->Prop}
  (hv:bp (fU++[7,8,10,11]) s'=some (jC s++[.int .u64 (q.num.natAbs:Nat),.int .u64 (q.den:Nat),.int .u64 (r.num.natAbs:Nat),.int .u64 (r.den:Nat)],oJ q r n m))
  (hN:∀s',aA P c f164.ntmps pn s' (gv c (Fin T f164 (.rat (q+sQ s r.num.natAbs r.den) (n+m+1))))->Q .normal s')
  (hR:∀s',gv c (Fin T f164 (.rat (q+sQ s r.num.natAbs r.den) (n+m+1))) .ret s'->Q .ret s'):aA P c f164.ntmps vG s' Q:=by
 have d1:=q.den_nz
 have d2:=r.den_nz
 have hz:Sz (q+sQ s r.num.natAbs r.den) (n+m+1):=hq.add (Dn d2 hr.1 hr.2)
 obtain⟨q1,q2⟩:=ri h1
 obtain⟨r1,r2⟩:=ri h2
 have hval:=G3 q r s
 obtain⟨b,hb⟩:∃b,decide (q<0)=b:=⟨_,rfl⟩
 rw[hb]at hval
 obtain⟨wx,bx⟩:=ql q1 r2
 obtain⟨wy,by'⟩:=ql r1 q2
 obtain⟨wd,bd⟩:=ql q2 r2
 have hd0:q.den*r.den≠0:=Nat.mul_ne_zero d1 d2
 have hk0:c.k0=bz:=by
  funext k
  cases hk:c.k0 k with
  |none=>rfl
  |some x=>have:=h0 0 k x hk;omega
 -- the end by short numbers
 have ret:∀{s':aL} {N D k:Nat} {z:Rat},z=q+sQ s r.num.natAbs r.den->bp fU s'=some (jC s,p5 b N D r m fun j=>if j=0 then dN (.rat z k)else .rat 0 1)->Q .ret s':=by
  intro s' N D k z hzv hv
  refine hR _ (yz SB hv (h0 8193) rfl (Zo fun i _=>?_) ⟨show 0<1 by omega,fL hzv hz⟩)
  split<;>rfl
 have back:∀{s':aL},bp fU s'=some (jC s,p5 b q.num.natAbs (if q.den=1 then 0 else q.den) r m fun _=>.rat 0 1)->Q .normal s':=by
  intro s' hv
  refine hN _ (aA.mP (eC (vs:=jC s) (ps:=oJ q r n m) (nx:=8193) [(0,0),(4096,4096),(8192,8192)] hv hk0 (by simp[jG]) ⟨aU,⟨rfl,lM rfl⟩,⟨rfl,lM rfl⟩,⟨rfl,lM rfl⟩,trivial⟩
   ⟨⟨_,_,rfl,rfl,jj rfl fun i _=>jO rfl⟩,⟨_,_,rfl,rfl,jj rfl fun i _=>jO rfl⟩,⟨_,_,rfl,rfl,jj rfl fun i _=>jQ rfl ?_⟩,trivial⟩) ?_)
  ·rw[<-hb];exact JR hq
  ·exact ND h0 hq hr hn hm' (s:=s) rfl
 refine aA.mP (eC (us:=[.bool s,.ptr 0 0 3 0 [],.ptr 4096 0 3 0 [],.ptr 8192 0 3 0 [],.int .u64 (q.num.natAbs:Nat),.int .u64 (q.den:Nat),.int .u64 (r.num.natAbs:Nat),.int .u64 (r.den:Nat)])
   (vs:=[.bool s,.ptr 0 0 3 0 [],.ptr 4096 0 3 0 [],.ptr 8192 0 3 0 [],.int .u64 (q.num.natAbs:Nat),.int .u64 (q.den:Nat),.int .u64 (r.num.natAbs:Nat),.int .u64 (r.den:Nat)]) (os:=oJ q r n m) (ps:=p5 b q.num.natAbs (if q.den=1 then 0 else q.den) r m fun _=>.rat 0 1) (nx:=8193) [(0,0),(4096,4096),(8192,8192)] hv hk0 (by simp[jG])
  ⟨aU,⟨rfl,lM rfl⟩,⟨rfl,lM rfl⟩,⟨rfl,lM rfl⟩,aU,aU,aU,aU,trivial⟩
  ⟨⟨_,_,rfl,rfl,jj rfl fun i _=>jO rfl⟩,⟨_,_,rfl,rfl,jj rfl fun i _=>jO rfl⟩,⟨_,_,rfl,rfl,jj rfl fun i _=>jQ rfl (by rw[<-hb];exact K0)⟩,trivial⟩) ?_
 have hD0:0<q.den*r.den:=aa
 have eqc:b=s->sQ s (q.num.natAbs*r.den+r.num.natAbs*q.den) (q.den*r.den)=q+sQ s r.num.natAbs r.den:=fun h=>by rw[hval,h,Gh hd0]
 have gec:b≠s->r.num.natAbs*q.den<=q.num.natAbs*r.den->sQ b (q.num.natAbs*r.den-r.num.natAbs*q.den) (q.den*r.den)=q+sQ s r.num.natAbs r.den:=fun h h'=>by rw[hval,Fm hd0 h h']
 have ltc:b≠s->q.num.natAbs*r.den<=r.num.natAbs*q.den->sQ s (r.num.natAbs*q.den-q.num.natAbs*r.den) (q.den*r.den)=q+sQ s r.num.natAbs r.den:=fun h h'=>by rw[hval,DR hd0 h h']
 clear hval hv hN hR h1 h2 hb
 generalize q+sQ s r.num.natAbs r.den=V at*
 generalize q.num.natAbs*r.den=X at*
 generalize r.num.natAbs*q.den=Y at*
 generalize q.den*r.den=D at*
 have ws:∀{a b:Nat},b<=a->a<=18446744065119617025->IntKind.u64.wrap ((a:Int)-(b:Int))=((a-b:Nat):Int):=fun {a b} h1 h2=>by rw[cI aa aa];omega
 cases b<;>cases s
 ·refine aA.bM hT mY hm 60 fU afE ah ?_
  rw[wx,wy,wd]
  simp only[af.all,aF,beq_iff_eq,bJ]
  refine⟨⟨aa,aa,aa⟩,aa,fun hc=>⟨⟨aa,aa,aa⟩,fun s' hv=>ret ?_ hv⟩,fun hc=>⟨aa,aa,fun s' hv=>back hv⟩⟩
  have h:=eq_of_beq (kB hc)
  have e:(((X:Int)+(Y:Int)+0)%18446744073709551616).toNat=X+Y:=aa
  rw[e];exact eqc rfl
 ·refine aA.bM hT mY hm 60 fU ac7 ah ?_
  rw[wx,wy,wd]
  simp only[af.all,aF,beq_iff_eq,bJ]
  refine⟨⟨aa,aa,aa⟩,aa,aa,fun hc=>?_,fun hc=>?_⟩
  ·have h:=of_decide_eq_true (kB hc)
   have h':Y<=X:=aa
   rw[ws h' bx]
   refine⟨⟨aa,aa,aa,aa⟩,fun s' hv=>ret ?_ hv⟩
   rw[bJ];exact gec (by simp) h'
  ·have h:=of_decide_eq_false (kB hc)
   have h':X<=Y:=aa
   rw[ws h' by']
   refine⟨aa,⟨aa,aa,aa⟩,fun s' hv=>ret ?_ hv⟩
   rw[bJ];exact ltc (by simp) h'
 ·refine aA.bM hT mY hm 60 fU afa ah ?_
  rw[wx,wy,wd]
  simp only[af.all,aF,beq_iff_eq,bJ]
  refine⟨⟨aa,aa,aa⟩,aa,aa,fun hc=>?_,fun hc=>?_⟩
  ·have h:=of_decide_eq_true (kB hc)
   have h':Y<=X:=aa
   rw[ws h' bx]
   refine⟨⟨aa,aa,aa,aa⟩,fun s' hv=>ret ?_ hv⟩
   rw[bJ];exact gec (by simp) h'
  ·have h:=of_decide_eq_false (kB hc)
   have h':X<=Y:=aa
   rw[ws h' by']
   refine⟨aa,⟨aa,aa,aa⟩,fun s' hv=>ret ?_ hv⟩
   rw[bJ];exact ltc (by simp) h'
 ·refine aA.bM hT mY hm 60 fU WS ah ?_
  rw[wx,wy,wd]
  simp only[af.all,aF,beq_iff_eq,bJ]
  refine⟨⟨aa,aa,aa⟩,aa,fun hc=>⟨⟨aa,aa,aa⟩,fun s' hv=>ret ?_ hv⟩,fun hc=>⟨aa,aa,fun s' hv=>back hv⟩⟩
  have h:=eq_of_beq (kB hc)
  have e:(((X:Int)+(Y:Int)+0)%18446744073709551616).toNat=X+Y:=aa
  rw[e];exact eqc rfl
theorem adM (hn:n<2^42) (hm':m<2^42) (K:Nat) (pre:aG):aY P 164 K [.rat q n,.rat r m,.bool s] pre (aT (.rat (q+sQ s r.num.natAbs r.den) (n+m+1)) []):=by
 refine lU fun⟨hq,hr,_⟩=>?_
 have hq:Sz q n:=hq
 have hr:Sz r m:=hr
 refine iY hT Uv rfl br rfl (fun _ c h0=>?_) K pre
 have long:=fun {s':aL}=>ND (s:=s) (s':=s') h0 hq hr hn hm'
 have fin:∀{s':aL} {R:AV},aA P c f164.ntmps pn s' (gv c (Fin T f164 R))->aA P c f164.ntmps pn s' (fQ (fun s''=>aI P c f164.ntmps (behind (aJ f164) [1,1]) s'' (gv c (Fin T f164 R))) (gv c (Fin T f164 R))):=
  fun h=>aA.mono h fun e s' h=>by cases e<;>exact h
 refine aA.hole [1,1] ah (aI.chunk 1 (aI.bM hT mY hm 60 fU PE ah fun s' hv=>cT ?_))
 show aI P c f164.ntmps [FL] s' _
 refine aI.mw hv (h0 8193) rfl rfl AT ?_
 refine aA.hole [1,1] ah (aI.bM hT mY hm 60 (fU++[7,8,28]) Q7 ah ⟨show 0<1 by omega,fun s' hv=>cT ?_⟩)
 refine aA.cond (b:=.tmp 28) (x:=Gu) (y:=.skip) (xq hv rfl rfl) (fun h1=>?_) (fun h1=>aA.skip (by exact fin (long (kA (ls:=fU) (l:=[7,8,28]) (vs:=jC s) hv rfl rfl))))
 simp only[h1,if_true]at hv
 have hv:=kA (ls:=fU++[7,8]) (l:=[28]) (vs:=jC s++[.int .u64 (q.num.natAbs:Nat),.int .u64 (q.den:Nat)]) hv rfl rfl
 refine aA.mw hv (h0 8193) rfl AT ?_
 refine aA.hole [1,1] ah (aI.bM hT mY hm 60 (fU++[7,8,10,11,35]) X4 ah ⟨show 0<1 by omega,fun s' hv=>cT ?_⟩)
 refine aA.cond (b:=.tmp 35) (x:=vG) (y:=.skip) (xq hv rfl rfl) (fun h2=>?_) (fun h2=>aA.skip (by exact fin (long (kA (ls:=fU) (l:=[7,8,10,11,35]) (vs:=jC s) hv rfl rfl))))
 simp only[h2,if_true]at hv
 exact VJ h0 hq hr hn hm' h1 h2 (kA (ls:=fU++[7,8,10,11]) (l:=[35]) (vs:=jC s++[.int .u64 (q.num.natAbs:Nat),.int .u64 (q.den:Nat),.int .u64 (r.num.natAbs:Nat),.int .u64 (r.den:Nat)]) hv rfl rfl)
  (fun s' h=>by exact fin h) (fun s' h=>by exact h)
end add
end Go.Am.B
