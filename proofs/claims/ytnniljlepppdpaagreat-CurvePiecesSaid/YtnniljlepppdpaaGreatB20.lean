/- rational.add, Add, Sub, Mul, Quo. -/
import Derived.Test.YtnniljlepppdpaaGreatB19
set_option linter.unusedVariables false
namespace Go.Am.B
open Go Go.Am.N AV
theorem QD {b:Bool} {N D k:Nat} (hk:k≠0):sQ b (N*k) (D*k)=sQ b N D:=by
 unfold sQ
 have:fM b (N*k)=fM b N*(k:Int):=by unfold fM;split<;>simp[Int.neg_mul]
 rw[this,Rat.mkRat_mul_right hk]
theorem EO {a c:Int} {d:Nat} (hd:d≠0):mkRat a d+mkRat c d=mkRat (a+c) d:=by
 rw[Rat.mkRat_add_mkRat _ _ hd hd,<-Int.add_mul,Rat.mkRat_mul_right hd]
theorem HD {s:Bool} {X Y D:Nat} (hD:D≠0):sQ s X D+sQ s Y D=sQ s (X+Y) D:=by
 unfold sQ
 rw[EO hD]
 congr 1
 unfold fM;split<;>simp<;>omega
theorem FX {b s:Bool} {X Y D:Nat} (hD:D≠0) (hb:b≠s) (h:Y<=X):sQ b X D+sQ s Y D=sQ b (X-Y) D:=by
 unfold sQ
 rw[EO hD]
 congr 1
 unfold fM
 cases b<;>cases s<;>simp at hb ⊢<;>omega
theorem Gh {b s:Bool} {X Y D:Nat} (hD:D≠0) (hb:b≠s) (h:X<=Y):sQ b X D+sQ s Y D=sQ s (Y-X) D:=by
 unfold sQ
 rw[EO hD]
 congr 1
 unfold fM
 cases b<;>cases s<;>simp at hb ⊢<;>omega
theorem Zb {b s : Bool} {X Y : Nat} : fM b X * fM s Y = fM (b != s) (X * Y) := by
 unfold fM
 cases b<;>cases s<;>simp[Int.neg_mul,Int.mul_neg]
theorem Ja {b s : Bool} {X Y D E : Nat} : sQ b X D * sQ s Y E = sQ (b != s) (X * Y) (D * E) := by
 unfold sQ
 rw[Rat.mkRat_mul_mkRat,Zb]
theorem p5 {q:Rat} (h:dP q=true):q.num.natAbs<4294967296/\q.den<4294967296:=by
 unfold dP at h
 simpa using h
theorem nY {a b:Nat} (ha:a<4294967296) (hb:b<4294967296):IntKind.u64.wrap ((a:Int)*(b:Int))=((a*b:Nat):Int)/\a*b<=18446744065119617025:=by
 have h:=Nat.mul_le_mul (show a<=4294967295 by omega) (show b<=4294967295 by omega)
 refine⟨?_,h⟩
 rw[show(a:Int)*(b:Int)=((a*b:Nat):Int) by simp,bZ aa aa]
section add
variable {q r:Rat} {n m:Nat} {s:Bool}
theorem ah4 {f:Nat->AV} (hf:∀i,i<1->keys (f i)=[]) {b:Bool} {N D:Nat}:gG 8193 (og b N D r m f):=⟨⟨aa,hf⟩,⟨aa,fun _ _=>rfl⟩,⟨aa,fun _ _=>rfl⟩,trivial⟩
theorem DL:gG 8193 (nv q r n m):=⟨⟨aa,fun _ _=>rfl⟩,⟨aa,fun _ _=>rfl⟩,⟨aa,fun _ _=>rfl⟩,trivial⟩
theorem Ew (q r:Rat) (s:Bool):q+sQ s r.num.natAbs r.den=sQ (decide (q<0)) (q.num.natAbs*r.den) (q.den*r.den)+sQ s (r.num.natAbs*q.den) (q.den*r.den):=by
 rw[QD r.den_nz,kJ,Nat.mul_comm q.den,QD q.den_nz]
theorem K6 {c:Ctx} (h0:∀nx k x,c.k0 k=some x->k<nx) (hq:Sz q n) (hr:Sz r m) (hn:n<2^42) (hm':m<2^42) {s':aH} (hv:bk ey s'=some (ij s,nv q r n m)):
  ay P c fA.ntmps mR s' (dX c (Fin T fA (.rat (q+sQ s r.num.natAbs r.den) (n+m+1)))):=by
 obtain⟨a1,a2,a3⟩:=Sz.jk hq aa
 obtain⟨b1,b2,b3⟩:=Sz.jk hr aa
 have d1:=q.den_nz
 have d2:=r.den_nz
 have hz:Sz (q+sQ s r.num.natAbs r.den) (n+m+1):=hq.add (Cl d2 hr.1 hr.2)
 have bx:∀{a b:Nat},a<2^n->b<2^m->nl (a*b)<2^40:=fun ha hb=>j9 (n:=n+m) (by rw[Nat.pow_add];exact Nat.mul_lt_mul'' ha hb) aa
 have last:∀{s':aH} {X Y D k:Nat},k<2^43->X<2^k->Y<2^k->nl D<2^40->D≠0->q+sQ s r.num.natAbs r.den=sQ (decide (q<0)) X D+sQ s Y D->bk (ey++[15,16,17]) s'=some (ij s++[.mag X,.mag Y,.mag D],nv q r n m)->
   aG P c fA.ntmps [part mR [1,1]] s' (dX c (Fin T fA (.rat (q+sQ s r.num.natAbs r.den) (n+m+1)))):=by
  intro s' X Y D k hk hX2 hY2 hD hD0 heq hv
  have hX:=j9 hX2 aa
  have hY:=j9 hY2 aa
  have hXY:nl (X+Y)<2^40:=j9 (n:=k+1) (by rw[Nat.pow_succ];omega) aa
  refine aG.j6 hT lU hm 60 hv (h0 _) rfl DL afC ah rfl ?_
  simp only[ag.all,aA,beq_iff_eq,beq_eq_false_iff_ne,ne_eq]
  refine⟨aa,fun hb=>⟨⟨hX,hY,hXY,hD,aa⟩,aa,cV ?_ hz⟩,fun hb=>⟨⟨hX,hY⟩,fun hc=>⟨⟨aa,Nat.lt_of_le_of_lt (gJ (Nat.sub_le _ _)) hX,hD,aa⟩,aa,cV ?_ hz⟩,fun hc=>⟨⟨hY,hX⟩,⟨Nat.lt_of_le_of_lt (gJ (Nat.sub_le _ _)) hY,hD,aa⟩,aa,cV ?_ hz⟩⟩⟩
  ·rw[heq,hb,HD hD0]
  ·rw[heq,FX hD0 hb (by split at hc<;>omega)]
  ·rw[heq,Gh hD0 hb (by split at hc<;>omega)]
 have mulb:∀{a b:Nat},a<2^n->b<2^m->a*b<2^(n+m):=fun ha hb=>by rw[Nat.pow_add];exact Nat.mul_lt_mul'' ha hb
 refine ay.hole [1,1] ah (aG.eW hT lU hm 60 hv (h0 _) rfl DL (ey++[15,16,17]) RS ah rfl ?_)
 simp only[ag.all,aA,Bool.not_eq_true',bt,Bool.not_eq_false',bf]
 have fin:∀{s':aH} {R:AV},aG P c fA.ntmps [part mR [1,1]] s' (dX c (Fin T fA R))->ay P c fA.ntmps (part mR [1,1]) s' (dM (fun s''=>aG P c fA.ntmps (behind mR [1,1]) s'' (dX c (Fin T fA R))) (dX c (Fin T fA R))):=
  fun h=>ay.mono h fun e s' h=>by cases e<;>exact h
 refine⟨⟨aa,aa,aa⟩,⟨aa,aa,a3,b3⟩,fun hb=>⟨⟨aa,a1,b2,aa,b1,a2,aa,a2,b2⟩,fun s' hv=>cw (fin (last (k:=n+m) aa (mulb hq.1 hr.2) ?_ (bx hq.2 hr.2) (Nat.mul_ne_zero d1 d2) (Ew q r s) hv))⟩,fun hb s' hv=>cw (fin (last (k:=n+m) aa (Nat.lt_of_lt_of_le hq.1 (Nat.pow_le_pow_right aa aa)) (Nat.lt_of_lt_of_le hr.1 (Nat.pow_le_pow_right aa aa)) a2 d1 ?_ hv))⟩
 ·rw[Nat.mul_comm];exact mulb hq.2 hr.1
 ·have:q.den=r.den:=by split at hb<;>split at hb<;>omega
  rw[<-this,kJ]
theorem abB {c:Ctx} (h0:∀nx k x,c.k0 k=some x->k<nx) (hq:Sz q n) (hr:Sz r m) (hn:n<2^42) (hm':m<2^42) (h1:dP q=true) (h2:dP r=true) {s':aH} {Q:ak->aH->Prop}
  (hv:bk (ey++[7,8,10,11]) s'=some (ij s++[.int .u64 (q.num.natAbs:Nat),.int .u64 (q.den:Nat),.int .u64 (r.num.natAbs:Nat),.int .u64 (r.den:Nat)],nv q r n m))
  (hN:∀s',ay P c fA.ntmps mR s' (dX c (Fin T fA (.rat (q+sQ s r.num.natAbs r.den) (n+m+1))))->Q .normal s')
  (hR:∀s',dX c (Fin T fA (.rat (q+sQ s r.num.natAbs r.den) (n+m+1))) .ret s'->Q .ret s'):ay P c fA.ntmps ug s' Q:=by
 have d1:=q.den_nz
 have d2:=r.den_nz
 have hz:Sz (q+sQ s r.num.natAbs r.den) (n+m+1):=hq.add (Cl d2 hr.1 hr.2)
 obtain⟨q1,q2⟩:=p5 h1
 obtain⟨r1,r2⟩:=p5 h2
 have hval:=Ew q r s
 obtain⟨b,hb⟩:∃b,decide (q<0)=b:=⟨_,rfl⟩
 rw[hb]at hval
 obtain⟨wx,bx⟩:=nY q1 r2
 obtain⟨wy,by'⟩:=nY r1 q2
 obtain⟨wd,bd⟩:=nY q2 r2
 have hd0:q.den*r.den≠0:=Nat.mul_ne_zero d1 d2
 have hk0:c.k0=br:=by
  funext k
  cases hk:c.k0 k with
  |none=>rfl
  |some x=>have:=h0 0 k x hk;omega
 -- the end by short numbers
 have ret:∀{s':aH} {N D k:Nat} {z:Rat},z=q+sQ s r.num.natAbs r.den->bk ey s'=some (ij s,og b N D r m fun j=>if j=0 then bA (.rat z k)else .rat 0 1)->Q .ret s':=by
  intro s' N D k z hzv hv
  refine hR _ (yU abb hv (h0 8193) rfl (ah4 fun i _=>?_) ⟨show 0<1 by omega,cV hzv hz⟩)
  split<;>rfl
 have back:∀{s':aH},bk ey s'=some (ij s,og b q.num.natAbs (if q.den=1 then 0 else q.den) r m fun _=>.rat 0 1)->Q .normal s':=by
  intro s' hv
  refine hN _ (ay.lT (dr (vs:=ij s) (ps:=nv q r n m) (nx:=8193) [(0,0),(4096,4096),(8192,8192)] hv hk0 (by simp[iO]) ⟨⟨rfl,aK rfl⟩,⟨rfl,mI rfl⟩,⟨rfl,mI rfl⟩,⟨rfl,mI rfl⟩,trivial⟩
   ⟨⟨_,_,rfl,rfl,iA rfl fun i _=>aK rfl⟩,⟨_,_,rfl,rfl,iA rfl fun i _=>aK rfl⟩,⟨_,_,rfl,rfl,iA rfl fun i _=>nB rfl ?_⟩,trivial⟩) ?_)
  ·rw[<-hb];exact JF hq
  ·exact K6 h0 hq hr hn hm' (s:=s) rfl
 refine ay.lT (dr (us:=[.bool s,.ptr 0 0 3 0 [],.ptr 4096 0 3 0 [],.ptr 8192 0 3 0 [],.int .u64 (q.num.natAbs:Nat),.int .u64 (q.den:Nat),.int .u64 (r.num.natAbs:Nat),.int .u64 (r.den:Nat)])
   (vs:=[.bool s,.ptr 0 0 3 0 [],.ptr 4096 0 3 0 [],.ptr 8192 0 3 0 [],.int .u64 (q.num.natAbs:Nat),.int .u64 (q.den:Nat),.int .u64 (r.num.natAbs:Nat),.int .u64 (r.den:Nat)]) (os:=nv q r n m) (ps:=og b q.num.natAbs (if q.den=1 then 0 else q.den) r m fun _=>.rat 0 1) (nx:=8193) [(0,0),(4096,4096),(8192,8192)] hv hk0 (by simp[iO])
  ⟨⟨rfl,aK rfl⟩,⟨rfl,mI rfl⟩,⟨rfl,mI rfl⟩,⟨rfl,mI rfl⟩,⟨rfl,aK rfl⟩,⟨rfl,aK rfl⟩,⟨rfl,aK rfl⟩,⟨rfl,aK rfl⟩,trivial⟩
  ⟨⟨_,_,rfl,rfl,iA rfl fun i _=>aK rfl⟩,⟨_,_,rfl,rfl,iA rfl fun i _=>aK rfl⟩,⟨_,_,rfl,rfl,iA rfl fun i _=>nB rfl (by rw[<-hb];exact Rt)⟩,trivial⟩) ?_
 have hD0:0<q.den*r.den:=aa
 have eqc:b=s->sQ s (q.num.natAbs*r.den+r.num.natAbs*q.den) (q.den*r.den)=q+sQ s r.num.natAbs r.den:=fun h=>by rw[hval,h,HD hd0]
 have gec:b≠s->r.num.natAbs*q.den<=q.num.natAbs*r.den->sQ b (q.num.natAbs*r.den-r.num.natAbs*q.den) (q.den*r.den)=q+sQ s r.num.natAbs r.den:=fun h h'=>by rw[hval,FX hd0 h h']
 have ltc:b≠s->q.num.natAbs*r.den<=r.num.natAbs*q.den->sQ s (r.num.natAbs*q.den-q.num.natAbs*r.den) (q.den*r.den)=q+sQ s r.num.natAbs r.den:=fun h h'=>by rw[hval,Gh hd0 h h']
 clear hval hv hN hR h1 h2 hb
 generalize q+sQ s r.num.natAbs r.den=V at*
 generalize q.num.natAbs*r.den=X at*
 generalize r.num.natAbs*q.den=Y at*
 generalize q.den*r.den=D at*
 have ws:∀{a b:Nat},b<=a->a<=18446744065119617025->IntKind.u64.wrap ((a:Int)-(b:Int))=((a-b:Nat):Int):=fun {a b} h1 h2=>by rw[bZ aa aa];omega
 cases b<;>cases s
 ·refine ay.bz hT lU hm 60 ey acF ah ?_
  rw[wx,wy,wd]
  simp only[ag.all,aA,beq_iff_eq,aX]
  refine⟨⟨aa,aa,aa⟩,aa,fun hc=>⟨⟨aa,aa,aa⟩,fun s' hv=>ret ?_ hv⟩,fun hc=>⟨aa,aa,fun s' hv=>back hv⟩⟩
  have h:=eq_of_beq (jq hc)
  have e:(((X:Int)+(Y:Int)+0)%18446744073709551616).toNat=X+Y:=aa
  rw[e];exact eqc rfl
 ·refine ay.bz hT lU hm 60 ey agM ah ?_
  rw[wx,wy,wd]
  simp only[ag.all,aA,beq_iff_eq,aX]
  refine⟨⟨aa,aa,aa⟩,aa,aa,fun hc=>?_,fun hc=>?_⟩
  ·have h:=of_decide_eq_true (jq hc)
   have h':Y<=X:=aa
   rw[ws h' bx]
   refine⟨⟨aa,aa,aa,aa⟩,fun s' hv=>ret ?_ hv⟩
   rw[aX];exact gec (by simp) h'
  ·have h:=of_decide_eq_false (jq hc)
   have h':X<=Y:=aa
   rw[ws h' by']
   refine⟨aa,⟨aa,aa,aa⟩,fun s' hv=>ret ?_ hv⟩
   rw[aX];exact ltc (by simp) h'
 ·refine ay.bz hT lU hm 60 ey Sk ah ?_
  rw[wx,wy,wd]
  simp only[ag.all,aA,beq_iff_eq,aX]
  refine⟨⟨aa,aa,aa⟩,aa,aa,fun hc=>?_,fun hc=>?_⟩
  ·have h:=of_decide_eq_true (jq hc)
   have h':Y<=X:=aa
   rw[ws h' bx]
   refine⟨⟨aa,aa,aa,aa⟩,fun s' hv=>ret ?_ hv⟩
   rw[aX];exact gec (by simp) h'
  ·have h:=of_decide_eq_false (jq hc)
   have h':X<=Y:=aa
   rw[ws h' by']
   refine⟨aa,⟨aa,aa,aa⟩,fun s' hv=>ret ?_ hv⟩
   rw[aX];exact ltc (by simp) h'
 ·refine ay.bz hT lU hm 60 ey TM ah ?_
  rw[wx,wy,wd]
  simp only[ag.all,aA,beq_iff_eq,aX]
  refine⟨⟨aa,aa,aa⟩,aa,fun hc=>⟨⟨aa,aa,aa⟩,fun s' hv=>ret ?_ hv⟩,fun hc=>⟨aa,aa,fun s' hv=>back hv⟩⟩
  have h:=eq_of_beq (jq hc)
  have e:(((X:Int)+(Y:Int)+0)%18446744073709551616).toNat=X+Y:=aa
  rw[e];exact eqc rfl
theorem Ut (hn:n<2^42) (hm':m<2^42) (K:Nat) (pre:aE):aD P Ch K [.rat q n,.rat r m,.bool s] pre (aL (.rat (q+sQ s r.num.natAbs r.den) (n+m+1)) []):=by
 refine jw fun⟨hq,hr,_⟩=>?_
 have hq:Sz q n:=hq
 have hr:Sz r m:=hr
 refine iy hT aiN rfl aW rfl (fun _ c h0=>?_) K pre
 have long:=fun {s':aH}=>K6 (s:=s) (s':=s') h0 hq hr hn hm'
 have fin:∀{s':aH} {R:AV},ay P c fA.ntmps mR s' (dX c (Fin T fA R))->ay P c fA.ntmps mR s' (dM (fun s''=>aG P c fA.ntmps (behind (az fA) [1,1]) s'' (dX c (Fin T fA R))) (dX c (Fin T fA R))):=
  fun h=>ay.mono h fun e s' h=>by cases e<;>exact h
 refine ay.hole [1,1] ah (aG.chunk 1 (aG.bz hT lU hm 60 ey agY ah fun s' hv=>cw ?_))
 show aG P c fA.ntmps [Gk] s' _
 refine aG.j0 hv (h0 8193) rfl rfl DL ?_
 refine ay.hole [1,1] ah (aG.bz hT lU hm 60 (ey++[7,8,28]) aaH ah ⟨show 0<1 by omega,fun s' hv=>cw ?_⟩)
 refine ay.cond (b:=.tmp 28) (x:=FW) (y:=.skip) (yx hv rfl rfl) (fun h1=>?_) (fun h1=>ay.skip (by exact fin (long (iD (ls:=ey) (l:=[7,8,28]) (vs:=ij s) hv rfl rfl))))
 simp only[h1,if_true]at hv
 have hv:=iD (ls:=ey++[7,8]) (l:=[28]) (vs:=ij s++[.int .u64 (q.num.natAbs:Nat),.int .u64 (q.den:Nat)]) hv rfl rfl
 refine ay.j0 hv (h0 8193) rfl DL ?_
 refine ay.hole [1,1] ah (aG.bz hT lU hm 60 (ey++[7,8,10,11,35]) aae ah ⟨show 0<1 by omega,fun s' hv=>cw ?_⟩)
 refine ay.cond (b:=.tmp 35) (x:=ug) (y:=.skip) (yx hv rfl rfl) (fun h2=>?_) (fun h2=>ay.skip (by exact fin (long (iD (ls:=ey) (l:=[7,8,10,11,35]) (vs:=ij s) hv rfl rfl))))
 simp only[h2,if_true]at hv
 exact abB h0 hq hr hn hm' h1 h2 (iD (ls:=ey++[7,8,10,11]) (l:=[35]) (vs:=ij s++[.int .u64 (q.num.natAbs:Nat),.int .u64 (q.den:Nat),.int .u64 (r.num.natAbs:Nat),.int .u64 (r.den:Nat)]) hv rfl rfl)
  (fun s' h=>by exact fin h) (fun s' h=>by exact h)
end add
end Go.Am.B
