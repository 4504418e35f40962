/- rational.add, Add, Sub, Mul, Quo. -/
import Derived.Test.YtolopdkjjlfgjaaGreatB19
set_option linter.unusedVariables false
namespace Go.Am.B
open Go Go.Am.N AV Proofs.Tryz
theorem HW {b:Bool} {N D k:Nat} (hk:k≠0):sQ b (N*k) (D*k)=sQ b N D:=by
 unfold sQ
 have:fW b (N*k)=fW b N*(k:Int):=by unfold fW;split<;>simp[Int.neg_mul]
 rw[this,Rat.mkRat_mul_right hk]
theorem BI {a c:Int} {d:Nat} (hd:d≠0):mkRat a d+mkRat c d=mkRat (a+c) d:=by
 rw[Rat.mkRat_add_mkRat _ _ hd hd,<-Int.add_mul,Rat.mkRat_mul_right hd]
theorem Cw {s:Bool} {X Y D:Nat} (hD:D≠0):sQ s X D+sQ s Y D=sQ s (X+Y) D:=by
 unfold sQ
 rw[BI hD]
 congr 1
 unfold fW;split<;>simp<;>omega
theorem Cc {b s:Bool} {X Y D:Nat} (hD:D≠0) (hb:b≠s) (h:Y<=X):sQ b X D+sQ s Y D=sQ b (X-Y) D:=by
 unfold sQ
 rw[BI hD]
 congr 1
 unfold fW
 cases b<;>cases s<;>simp at hb ⊢<;>omega
theorem Ay {b s:Bool} {X Y D:Nat} (hD:D≠0) (hb:b≠s) (h:X<=Y):sQ b X D+sQ s Y D=sQ s (Y-X) D:=by
 unfold sQ
 rw[BI hD]
 congr 1
 unfold fW
 cases b<;>cases s<;>simp at hb ⊢<;>omega
theorem adr {b s:Bool} {X Y:Nat}:fW b X*fW s Y=fW (b !=s) (X*Y):=by
 unfold fW
 cases b<;>cases s<;>simp[Int.neg_mul,Int.mul_neg]
theorem Dd {b s:Bool} {X Y D E:Nat}:sQ b X D*sQ s Y E=sQ (b !=s) (X*Y) (D*E):=by
 unfold sQ
 rw[Rat.mkRat_mul_mkRat,adr]
theorem oY {q:Rat} (h:ef q=true):q.num.natAbs<4294967296/\q.den<4294967296:=by
 unfold ef at h
 simpa using h
theorem mN {a b:Nat} (ha:a<4294967296) (hb:b<4294967296):IntKind.u64.wrap ((a:Int)*(b:Int))=((a*b:Nat):Int)/\a*b<=18446744065119617025:=by
 have h:=Nat.mul_le_mul (show a<=4294967295 by omega) (show b<=4294967295 by omega)
 refine⟨?_,h⟩
 rw[show(a:Int)*(b:Int)=((a*b:Nat):Int) by simp,bZ aa aa]
section add
variable {q r:Rat} {n m:Nat} {s:Bool}
theorem ZH {f:Nat->AV} (hf:∀i,i<1->keys (f i)=[]) {b:Bool} {N D:Nat}:iz 8193 (mL b N D r m f):=⟨⟨aa,hf⟩,⟨aa,fun _ _=>rfl⟩,⟨aa,fun _ _=>rfl⟩,trivial⟩
theorem yO:iz 8193 (l6 q r n m):=⟨⟨aa,fun _ _=>rfl⟩,⟨aa,fun _ _=>rfl⟩,⟨aa,fun _ _=>rfl⟩,trivial⟩
theorem CQ (q r:Rat) (s:Bool):q+sQ s r.num.natAbs r.den=sQ (decide (q<0)) (q.num.natAbs*r.den) (q.den*r.den)+sQ s (r.num.natAbs*q.den) (q.den*r.den):=by
 rw[HW r.den_nz,jR,Nat.mul_comm q.den,HW q.den_nz]
theorem EI {c:Ctx} (h0:∀nx k x,c.k0 k=some x->k<nx) (hq:Sz q n) (hr:Sz r m) (hn:n<2^42) (hm':m<2^42) {s':aH} (hv:bh eO s'=some (g9 s,l6 q r n m)):
  au P c f164.ntmps lS s' (fA c (Fin T f164 (.rat (q+sQ s r.num.natAbs r.den) (n+m+1)))):=by
 obtain⟨a1,a2,a3⟩:=Sz.jF hq aa
 obtain⟨b1,b2,b3⟩:=Sz.jF hr aa
 have d1:=q.den_nz
 have d2:=r.den_nz
 have hz:Sz (q+sQ s r.num.natAbs r.den) (n+m+1):=hq.add (B0 d2 hr.1 hr.2)
 have bx:∀{a b:Nat},a<2^n->b<2^m->nl (a*b)<2^40:=fun ha hb=>jz (n:=n+m) (by rw[Nat.pow_add];exact Nat.mul_lt_mul'' ha hb) aa
 have last:∀{s':aH} {X Y D k:Nat},k<2^43->X<2^k->Y<2^k->nl D<2^40->D≠0->q+sQ s r.num.natAbs r.den=sQ (decide (q<0)) X D+sQ s Y D->bh (eO++[15,16,17]) s'=some (g9 s++[.mag X,.mag Y,.mag D],l6 q r n m)->
   aE P c f164.ntmps [part lS [1,1]] s' (fA c (Fin T f164 (.rat (q+sQ s r.num.natAbs r.den) (n+m+1)))):=by
  intro s' X Y D k hk hX2 hY2 hD hD0 heq hv
  have hX:=jz hX2 aa
  have hY:=jz hY2 aa
  have hXY:nl (X+Y)<2^40:=jz (n:=k+1) (by rw[Nat.pow_succ];omega) aa
  refine aE.jA hT kA hm 60 hv (h0 _) rfl yO Pk ah rfl ?_
  simp only[af.all,az,beq_iff_eq,beq_eq_false_iff_ne,ne_eq]
  refine⟨aa,fun hb=>⟨⟨hX,hY,hXY,hD,aa⟩,aa,dF ?_ hz⟩,fun hb=>⟨⟨hX,hY⟩,fun hc=>⟨⟨aa,Nat.lt_of_le_of_lt (gY (Nat.sub_le _ _)) hX,hD,aa⟩,aa,dF ?_ hz⟩,fun hc=>⟨⟨hY,hX⟩,⟨Nat.lt_of_le_of_lt (gY (Nat.sub_le _ _)) hY,hD,aa⟩,aa,dF ?_ hz⟩⟩⟩
  ·rw[heq,hb,Cw hD0]
  ·rw[heq,Cc hD0 hb (by split at hc<;>omega)]
  ·rw[heq,Ay hD0 hb (by split at hc<;>omega)]
 have mulb:∀{a b:Nat},a<2^n->b<2^m->a*b<2^(n+m):=fun ha hb=>by rw[Nat.pow_add];exact Nat.mul_lt_mul'' ha hb
 refine au.hole [1,1] ah (aE.fj hT kA hm 60 hv (h0 _) rfl yO (eO++[15,16,17]) Pn ah rfl ?_)
 simp only[af.all,az,Bool.not_eq_true',bB,Bool.not_eq_false',bz]
 have fin:∀{s':aH} {R:AV},aE P c f164.ntmps [part lS [1,1]] s' (fA c (Fin T f164 R))->au P c f164.ntmps (part lS [1,1]) s' (ew (fun s''=>aE P c f164.ntmps (behind lS [1,1]) s'' (fA c (Fin T f164 R))) (fA c (Fin T f164 R))):=
  fun h=>au.mono h fun e s' h=>by cases e<;>exact h
 refine⟨⟨aa,aa,aa⟩,⟨aa,aa,a3,b3⟩,fun hb=>⟨⟨aa,a1,b2,aa,b1,a2,aa,a2,b2⟩,fun s' hv=>cz (fin (last (k:=n+m) aa (mulb hq.1 hr.2) ?_ (bx hq.2 hr.2) (Nat.mul_ne_zero d1 d2) (CQ q r s) hv))⟩,fun hb s' hv=>cz (fin (last (k:=n+m) aa (Nat.lt_of_lt_of_le hq.1 (Nat.pow_le_pow_right aa aa)) (Nat.lt_of_lt_of_le hr.1 (Nat.pow_le_pow_right aa aa)) a2 d1 ?_ hv))⟩
 ·rw[Nat.mul_comm];exact mulb hq.2 hr.1
 ·have:q.den=r.den:=by split at hb<;>split at hb<;>omega
  rw[<-this,jR]
theorem PL {c:Ctx} (h0:∀nx k x,c.k0 k=some x->k<nx) (hq:Sz q n) (hr:Sz r m) (hn:n<2^42) (hm':m<2^42) (h1:ef q=true) (h2:ef r=true) {s':aH} {Q:aq->aH->Prop}
  (hv:bh (eO++[7,8,10,11]) s'=some (g9 s++[.int .u64 (q.num.natAbs:Nat),.int .u64 (q.den:Nat),.int .u64 (r.num.natAbs:Nat),.int .u64 (r.den:Nat)],l6 q r n m))
  (hN:∀s',au P c f164.ntmps lS s' (fA c (Fin T f164 (.rat (q+sQ s r.num.natAbs r.den) (n+m+1))))->Q .normal s')
  (hR:∀s',fA c (Fin T f164 (.rat (q+sQ s r.num.natAbs r.den) (n+m+1))) .ret s'->Q .ret s'):au P c f164.ntmps rN s' Q:=by
 have d1:=q.den_nz
 have d2:=r.den_nz
 have hz:Sz (q+sQ s r.num.natAbs r.den) (n+m+1):=hq.add (B0 d2 hr.1 hr.2)
 obtain⟨q1,q2⟩:=oY h1
 obtain⟨r1,r2⟩:=oY h2
 have hval:=CQ q r s
 obtain⟨b,hb⟩:∃b,decide (q<0)=b:=⟨_,rfl⟩
 rw[hb]at hval
 obtain⟨wx,bx⟩:=mN q1 r2
 obtain⟨wy,by'⟩:=mN r1 q2
 obtain⟨wd,bd⟩:=mN q2 r2
 have hd0:q.den*r.den≠0:=Nat.mul_ne_zero d1 d2
 have hk0:c.k0=br:=by
  funext k
  cases hk:c.k0 k with
  |none=>rfl
  |some x=>have:=h0 0 k x hk;omega
 -- the end by short numbers
 have ret:∀{s':aH} {N D k:Nat} {z:Rat},z=q+sQ s r.num.natAbs r.den->bh eO s'=some (g9 s,mL b N D r m fun j=>if j=0 then dL (.rat z k)else .rat 0 1)->Q .ret s':=by
  intro s' N D k z hzv hv
  refine hR _ (xQ abV hv (h0 8193) rfl (ZH fun i _=>?_) ⟨show 0<1 by omega,dF hzv hz⟩)
  split<;>rfl
 have back:∀{s':aH},bh eO s'=some (g9 s,mL b q.num.natAbs (if q.den=1 then 0 else q.den) r m fun _=>.rat 0 1)->Q .normal s':=by
  intro s' hv
  refine hN _ (au.lf (dH (vs:=g9 s) (ps:=l6 q r n m) (nx:=8193) [(0,0),(4096,4096),(8192,8192)] hv hk0 (by simp[gU]) ⟨aN,⟨rfl,gq rfl⟩,⟨rfl,gq rfl⟩,⟨rfl,gq rfl⟩,trivial⟩
   ⟨⟨_,_,rfl,rfl,fZ rfl fun i _=>gh rfl⟩,⟨_,_,rfl,rfl,fZ rfl fun i _=>gh rfl⟩,⟨_,_,rfl,rfl,fZ rfl fun i _=>gT rfl ?_⟩,trivial⟩) ?_)
  ·rw[<-hb];exact Kx hq
  ·exact EI h0 hq hr hn hm' (s:=s) rfl
 refine au.lf (dH (us:=[.bool s,.ptr 0 0 3 0 [],.ptr 4096 0 3 0 [],.ptr 8192 0 3 0 [],.int .u64 (q.num.natAbs:Nat),.int .u64 (q.den:Nat),.int .u64 (r.num.natAbs:Nat),.int .u64 (r.den:Nat)])
   (vs:=[.bool s,.ptr 0 0 3 0 [],.ptr 4096 0 3 0 [],.ptr 8192 0 3 0 [],.int .u64 (q.num.natAbs:Nat),.int .u64 (q.den:Nat),.int .u64 (r.num.natAbs:Nat),.int .u64 (r.den:Nat)]) (os:=l6 q r n m) (ps:=mL b q.num.natAbs (if q.den=1 then 0 else q.den) r m fun _=>.rat 0 1) (nx:=8193) [(0,0),(4096,4096),(8192,8192)] hv hk0 (by simp[gU])
  ⟨aN,⟨rfl,gq rfl⟩,⟨rfl,gq rfl⟩,⟨rfl,gq rfl⟩,aN,aN,aN,aN,trivial⟩
  ⟨⟨_,_,rfl,rfl,fZ rfl fun i _=>gh rfl⟩,⟨_,_,rfl,rfl,fZ rfl fun i _=>gh rfl⟩,⟨_,_,rfl,rfl,fZ rfl fun i _=>gT rfl (by rw[<-hb];exact IE)⟩,trivial⟩) ?_
 have hD0:0<q.den*r.den:=aa
 have eqc:b=s->sQ s (q.num.natAbs*r.den+r.num.natAbs*q.den) (q.den*r.den)=q+sQ s r.num.natAbs r.den:=fun h=>by rw[hval,h,Cw hd0]
 have gec:b≠s->r.num.natAbs*q.den<=q.num.natAbs*r.den->sQ b (q.num.natAbs*r.den-r.num.natAbs*q.den) (q.den*r.den)=q+sQ s r.num.natAbs r.den:=fun h h'=>by rw[hval,Cc hd0 h h']
 have ltc:b≠s->q.num.natAbs*r.den<=r.num.natAbs*q.den->sQ s (r.num.natAbs*q.den-q.num.natAbs*r.den) (q.den*r.den)=q+sQ s r.num.natAbs r.den:=fun h h'=>by rw[hval,Ay hd0 h h']
 clear hval hv hN hR h1 h2 hb
 generalize q+sQ s r.num.natAbs r.den=V at*
 generalize q.num.natAbs*r.den=X at*
 generalize r.num.natAbs*q.den=Y at*
 generalize q.den*r.den=D at*
 have ws:∀{a b:Nat},b<=a->a<=18446744065119617025->IntKind.u64.wrap ((a:Int)-(b:Int))=((a-b:Nat):Int):=fun {a b} h1 h2=>by rw[bZ aa aa];omega
 cases b<;>cases s
 ·refine au.bD hT kA hm 60 eO ZI ah ?_
  rw[wx,wy,wd]
  simp only[af.all,az,beq_iff_eq,bw]
  refine⟨⟨aa,aa,aa⟩,aa,fun hc=>⟨⟨aa,aa,aa⟩,fun s' hv=>ret ?_ hv⟩,fun hc=>⟨aa,aa,fun s' hv=>back hv⟩⟩
  have h:=eq_of_beq (jc hc)
  have e:(((X:Int)+(Y:Int)+0)%18446744073709551616).toNat=X+Y:=aa
  rw[e];exact eqc rfl
 ·refine au.bD hT kA hm 60 eO Xc ah ?_
  rw[wx,wy,wd]
  simp only[af.all,az,beq_iff_eq,bw]
  refine⟨⟨aa,aa,aa⟩,aa,aa,fun hc=>?_,fun hc=>?_⟩
  ·have h:=of_decide_eq_true (jc hc)
   have h':Y<=X:=aa
   rw[ws h' bx]
   refine⟨⟨aa,aa,aa,aa⟩,fun s' hv=>ret ?_ hv⟩
   rw[bw];exact gec (by simp) h'
  ·have h:=of_decide_eq_false (jc hc)
   have h':X<=Y:=aa
   rw[ws h' by']
   refine⟨aa,⟨aa,aa,aa⟩,fun s' hv=>ret ?_ hv⟩
   rw[bw];exact ltc (by simp) h'
 ·refine au.bD hT kA hm 60 eO adi ah ?_
  rw[wx,wy,wd]
  simp only[af.all,az,beq_iff_eq,bw]
  refine⟨⟨aa,aa,aa⟩,aa,aa,fun hc=>?_,fun hc=>?_⟩
  ·have h:=of_decide_eq_true (jc hc)
   have h':Y<=X:=aa
   rw[ws h' bx]
   refine⟨⟨aa,aa,aa,aa⟩,fun s' hv=>ret ?_ hv⟩
   rw[bw];exact gec (by simp) h'
  ·have h:=of_decide_eq_false (jc hc)
   have h':X<=Y:=aa
   rw[ws h' by']
   refine⟨aa,⟨aa,aa,aa⟩,fun s' hv=>ret ?_ hv⟩
   rw[bw];exact ltc (by simp) h'
 ·refine au.bD hT kA hm 60 eO Qt ah ?_
  rw[wx,wy,wd]
  simp only[af.all,az,beq_iff_eq,bw]
  refine⟨⟨aa,aa,aa⟩,aa,fun hc=>⟨⟨aa,aa,aa⟩,fun s' hv=>ret ?_ hv⟩,fun hc=>⟨aa,aa,fun s' hv=>back hv⟩⟩
  have h:=eq_of_beq (jc hc)
  have e:(((X:Int)+(Y:Int)+0)%18446744073709551616).toNat=X+Y:=aa
  rw[e];exact eqc rfl
theorem MT (hn:n<2^42) (hm':m<2^42) (K:Nat) (pre:aD):aO P 164 K [.rat q n,.rat r m,.bool s] pre (aJ (.rat (q+sQ s r.num.natAbs r.den) (n+m+1)) []):=by
 refine jU fun⟨hq,hr,_⟩=>?_
 have hq:Sz q n:=hq
 have hr:Sz r m:=hr
 refine gB hT NQ rfl aX rfl (fun _ c h0=>?_) K pre
 have long:=fun {s':aH}=>EI (s:=s) (s':=s') h0 hq hr hn hm'
 have fin:∀{s':aH} {R:AV},au P c f164.ntmps lS s' (fA c (Fin T f164 R))->au P c f164.ntmps lS s' (ew (fun s''=>aE P c f164.ntmps (behind (aG f164) [1,1]) s'' (fA c (Fin T f164 R))) (fA c (Fin T f164 R))):=
  fun h=>au.mono h fun e s' h=>by cases e<;>exact h
 refine au.hole [1,1] ah (aE.chunk 1 (aE.bD hT kA hm 60 eO RL ah fun s' hv=>cz ?_))
 show aE P c f164.ntmps [Bu] s' _
 refine aE.jL hv (h0 8193) rfl rfl yO ?_
 refine au.hole [1,1] ah (aE.bD hT kA hm 60 (eO++[7,8,28]) YG ah ⟨show 0<1 by omega,fun s' hv=>cz ?_⟩)
 refine au.cond (b:=.tmp 28) (x:=Dm) (y:=.skip) (vt hv rfl rfl) (fun h1=>?_) (fun h1=>au.skip (by exact fin (long (jv (ls:=eO) (l:=[7,8,28]) (vs:=g9 s) hv rfl rfl))))
 simp only[h1,if_true]at hv
 have hv:=jv (ls:=eO++[7,8]) (l:=[28]) (vs:=g9 s++[.int .u64 (q.num.natAbs:Nat),.int .u64 (q.den:Nat)]) hv rfl rfl
 refine au.jL hv (h0 8193) rfl yO ?_
 refine au.hole [1,1] ah (aE.bD hT kA hm 60 (eO++[7,8,10,11,35]) SZ ah ⟨show 0<1 by omega,fun s' hv=>cz ?_⟩)
 refine au.cond (b:=.tmp 35) (x:=rN) (y:=.skip) (vt hv rfl rfl) (fun h2=>?_) (fun h2=>au.skip (by exact fin (long (jv (ls:=eO) (l:=[7,8,10,11,35]) (vs:=g9 s) hv rfl rfl))))
 simp only[h2,if_true]at hv
 exact PL h0 hq hr hn hm' h1 h2 (jv (ls:=eO++[7,8,10,11]) (l:=[35]) (vs:=g9 s++[.int .u64 (q.num.natAbs:Nat),.int .u64 (q.den:Nat),.int .u64 (r.num.natAbs:Nat),.int .u64 (r.den:Nat)]) hv rfl rfl)
  (fun s' h=>by exact fin h) (fun s' h=>by exact h)
end add
end Go.Am.B
