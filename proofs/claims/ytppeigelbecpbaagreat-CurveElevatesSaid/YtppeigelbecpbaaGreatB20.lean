/- rational. -/
import Derived.Test.YtppeigelbecpbaaGreatB19
set_option linter.unusedVariables false
namespace Go.Am.B
open Go Go.Am.N AV
theorem PB {b:Bool} {N D k:Nat} (hk:k≠0):sQ b (N*k) (D*k)=sQ b N D:=by
 unfold sQ
 have:fV b (N*k)=fV b N*(k:Int):=by unfold fV;split<;>simp[Int.neg_mul]
 rw[this,Rat.mkRat_mul_right hk]
theorem Jw {a c:Int} {d:Nat} (hd:d≠0):mkRat a d+mkRat c d=mkRat (a+c) d:=by
 rw[Rat.mkRat_add_mkRat _ _ hd hd,<-Int.add_mul,Rat.mkRat_mul_right hd]
theorem Hu {s:Bool} {X Y D:Nat} (hD:D≠0):sQ s X D+sQ s Y D=sQ s (X+Y) D:=by
 unfold sQ
 rw[Jw hD]
 congr 1
 unfold fV;split<;>simp<;>omega
theorem Jk {b s:Bool} {X Y D:Nat} (hD:D≠0) (hb:b≠s) (h:Y<=X):sQ b X D+sQ s Y D=sQ b (X-Y) D:=by
 unfold sQ
 rw[Jw hD]
 congr 1
 unfold fV
 cases b<;>cases s<;>simp at hb ⊢<;>omega
theorem Jv {b s:Bool} {X Y D:Nat} (hD:D≠0) (hb:b≠s) (h:X<=Y):sQ b X D+sQ s Y D=sQ s (Y-X) D:=by
 unfold sQ
 rw[Jw hD]
 congr 1
 unfold fV
 cases b<;>cases s<;>simp at hb ⊢<;>omega
theorem acW {b s : Bool} {X Y : Nat} : fV b X * fV s Y = fV (b != s) (X * Y) := by
 unfold fV
 cases b<;>cases s<;>simp[Int.neg_mul,Int.mul_neg]
theorem KI {b s : Bool} {X Y D E : Nat} : sQ b X D * sQ s Y E = sQ (b != s) (X * Y) (D * E) := by
 unfold sQ
 rw[Rat.mkRat_mul_mkRat,acW]
theorem qG {q:Rat} (h:dX q=true):q.num.natAbs<4294967296/\q.den<4294967296:=by
 unfold dX at h
 simpa using h
theorem pH {a b:Nat} (ha:a<4294967296) (hb:b<4294967296):IntKind.u64.wrap ((a:Int)*(b:Int))=((a*b:Nat):Int)/\a*b<=18446744065119617025:=by
 have h:=Nat.mul_le_mul (show a<=4294967295 by omega) (show b<=4294967295 by omega)
 refine⟨?_,h⟩
 rw[show(a:Int)*(b:Int)=((a*b:Nat):Int) by simp,cu aa aa]
section add
variable {q r:Rat} {n m:Nat} {s:Bool}
theorem al4 {f:Nat->AV} (hf:∀i,i<1->keys (f i)=[]) {b:Bool} {N D:Nat}:gN 8193 (o5 b N D r m f):=⟨⟨aa,hf⟩,⟨aa,fun _ _=>rfl⟩,⟨aa,fun _ _=>rfl⟩,trivial⟩
theorem CB:gN 8193 (nV q r n m):=⟨⟨aa,fun _ _=>rfl⟩,⟨aa,fun _ _=>rfl⟩,⟨aa,fun _ _=>rfl⟩,trivial⟩
theorem IS (q r:Rat) (s:Bool):q+sQ s r.num.natAbs r.den=sQ (decide (q<0)) (q.num.natAbs*r.den) (q.den*r.den)+sQ s (r.num.natAbs*q.den) (q.den*r.den):=by
 rw[PB r.den_nz,lJ,Nat.mul_comm q.den,PB q.den_nz]
theorem MK {c:Ctx} (h0:∀nx k x,c.k0 k=some x->k<nx) (hq:Sz q n) (hr:Sz r m) (hn:n<2^42) (hm':m<2^42) {s':aM} (hv:bt ew s'=some (iD s,nV q r n m)):
  ax P c fH.ntmps nH s' (dP c (Fin T fH (.rat (q+sQ s r.num.natAbs r.den) (n+m+1)))):=by
 obtain⟨a1,a2,a3⟩:=Sz.jz hq aa
 obtain⟨b1,b2,b3⟩:=Sz.jz hr aa
 have d1:=q.den_nz
 have d2:=r.den_nz
 have hz:Sz (q+sQ s r.num.natAbs r.den) (n+m+1):=hq.add (BQ d2 hr.1 hr.2)
 have bx:∀{a b:Nat},a<2^n->b<2^m->nl (a*b)<2^40:=fun ha hb=>jh (n:=n+m) (by rw[Nat.pow_add];exact Nat.mul_lt_mul'' ha hb) aa
 have last:∀{s':aM} {X Y D k:Nat},k<2^43->X<2^k->Y<2^k->nl D<2^40->D≠0->q+sQ s r.num.natAbs r.den=sQ (decide (q<0)) X D+sQ s Y D->bt (ew++[15,16,17]) s'=some (iD s++[.mag X,.mag Y,.mag D],nV q r n m)->
   aI P c fH.ntmps [part nH [1,1]] s' (dP c (Fin T fH (.rat (q+sQ s r.num.natAbs r.den) (n+m+1)))):=by
  intro s' X Y D k hk hX2 hY2 hD hD0 heq hv
  have hX:=jh hX2 aa
  have hY:=jh hY2 aa
  have hXY:nl (X+Y)<2^40:=jh (n:=k+1) (by rw[Nat.pow_succ];omega) aa
  refine aI.jZ hT mB hm 60 hv (h0 _) rfl CB ait ag rfl ?_
  simp only[ah.all,az,beq_iff_eq,beq_eq_false_iff_ne,ne_eq]
  refine⟨aa,fun hb=>⟨⟨hX,hY,hXY,hD,aa⟩,aa,dA ?_ hz⟩,fun hb=>⟨⟨hX,hY⟩,fun hc=>⟨⟨aa,Nat.lt_of_le_of_lt (gV (Nat.sub_le _ _)) hX,hD,aa⟩,aa,dA ?_ hz⟩,fun hc=>⟨⟨hY,hX⟩,⟨Nat.lt_of_le_of_lt (gV (Nat.sub_le _ _)) hY,hD,aa⟩,aa,dA ?_ hz⟩⟩⟩
  ·rw[heq,hb,Hu hD0]
  ·rw[heq,Jk hD0 hb (by split at hc<;>omega)]
  ·rw[heq,Jv hD0 hb (by split at hc<;>omega)]
 have mulb:∀{a b:Nat},a<2^n->b<2^m->a*b<2^(n+m):=fun ha hb=>by rw[Nat.pow_add];exact Nat.mul_lt_mul'' ha hb
 refine ax.hole [1,1] ag (aI.fh hT mB hm 60 hv (h0 _) rfl CB (ew++[15,16,17]) Zk ag rfl ?_)
 simp only[ah.all,az,Bool.not_eq_true',bk,Bool.not_eq_false',aZ]
 have fin:∀{s':aM} {R:AV},aI P c fH.ntmps [part nH [1,1]] s' (dP c (Fin T fH R))->ax P c fH.ntmps (part nH [1,1]) s' (dH (fun s''=>aI P c fH.ntmps (behind nH [1,1]) s'' (dP c (Fin T fH R))) (dP c (Fin T fH R))):=
  fun h=>ax.mono h fun e s' h=>by cases e<;>exact h
 refine⟨⟨aa,aa,aa⟩,⟨aa,aa,a3,b3⟩,fun hb=>⟨⟨aa,a1,b2,aa,b1,a2,aa,a2,b2⟩,fun s' hv=>cJ (fin (last (k:=n+m) aa (mulb hq.1 hr.2) ?_ (bx hq.2 hr.2) (Nat.mul_ne_zero d1 d2) (IS q r s) hv))⟩,fun hb s' hv=>cJ (fin (last (k:=n+m) aa (Nat.lt_of_lt_of_le hq.1 (Nat.pow_le_pow_right aa aa)) (Nat.lt_of_lt_of_le hr.1 (Nat.pow_le_pow_right aa aa)) a2 d1 ?_ hv))⟩
 ·rw[Nat.mul_comm];exact mulb hq.2 hr.1
 ·have:q.den=r.den:=by split at hb<;>split at hb<;>omega
  rw[<-this,lJ]
theorem aaG {c:Ctx} (h0:∀nx k x,c.k0 k=some x->k<nx) (hq:Sz q n) (hr:Sz r m) (hn:n<2^42) (hm':m<2^42) (h1:dX q=true) (h2:dX r=true) {s':aM} {Q:au->aM->Prop}
  (hv:bt (ew++[7,8,10,11]) s'=some (iD s++[.int .u64 (q.num.natAbs:Nat),.int .u64 (q.den:Nat),.int .u64 (r.num.natAbs:Nat),.int .u64 (r.den:Nat)],nV q r n m))
  (hN:∀s',ax P c fH.ntmps nH s' (dP c (Fin T fH (.rat (q+sQ s r.num.natAbs r.den) (n+m+1))))->Q .normal s')
  (hR:∀s',dP c (Fin T fH (.rat (q+sQ s r.num.natAbs r.den) (n+m+1))) .ret s'->Q .ret s'):ax P c fH.ntmps uz s' Q:=by
 have d1:=q.den_nz
 have d2:=r.den_nz
 have hz:Sz (q+sQ s r.num.natAbs r.den) (n+m+1):=hq.add (BQ d2 hr.1 hr.2)
 obtain⟨q1,q2⟩:=qG h1
 obtain⟨r1,r2⟩:=qG h2
 have hval:=IS q r s
 obtain⟨b,hb⟩:∃b,decide (q<0)=b:=⟨_,rfl⟩
 rw[hb]at hval
 obtain⟨wx,bx⟩:=pH q1 r2
 obtain⟨wy,by'⟩:=pH r1 q2
 obtain⟨wd,bd⟩:=pH q2 r2
 have hd0:q.den*r.den≠0:=Nat.mul_ne_zero d1 d2
 have hk0:c.k0=bB:=by
  funext k
  cases hk:c.k0 k with
  |none=>rfl
  |some x=>have:=h0 0 k x hk;omega
 -- the end by short numbers
 have ret:∀{s':aM} {N D k:Nat} {z:Rat},z=q+sQ s r.num.natAbs r.den->bt ew s'=some (iD s,o5 b N D r m fun j=>if j=0 then aV (.rat z k)else .rat 0 1)->Q .ret s':=by
  intro s' N D k z hzv hv
  refine hR _ (x9 ala hv (h0 8193) rfl (al4 fun i _=>?_) ⟨show 0<1 by omega,dA hzv hz⟩)
  split<;>rfl
 have back:∀{s':aM},bt ew s'=some (iD s,o5 b q.num.natAbs (if q.den=1 then 0 else q.den) r m fun _=>.rat 0 1)->Q .normal s':=by
  intro s' hv
  refine hN _ (ax.jA (dB (vs:=iD s) (ps:=nV q r n m) (nx:=8193) [(0,0),(4096,4096),(8192,8192)] hv hk0 (by simp[iA]) ⟨⟨rfl,aN rfl⟩,⟨rfl,nE rfl⟩,⟨rfl,nE rfl⟩,⟨rfl,nE rfl⟩,trivial⟩
   ⟨⟨_,_,rfl,rfl,jq rfl fun i _=>aN rfl⟩,⟨_,_,rfl,rfl,jq rfl fun i _=>aN rfl⟩,⟨_,_,rfl,rfl,jq rfl fun i _=>mL rfl ?_⟩,trivial⟩) ?_)
  ·rw[<-hb];exact MW hq
  ·exact MK h0 hq hr hn hm' (s:=s) rfl
 refine ax.jA (dB (us:=[.bool s,.ptr 0 0 3 0 [],.ptr 4096 0 3 0 [],.ptr 8192 0 3 0 [],.int .u64 (q.num.natAbs:Nat),.int .u64 (q.den:Nat),.int .u64 (r.num.natAbs:Nat),.int .u64 (r.den:Nat)])
   (vs:=[.bool s,.ptr 0 0 3 0 [],.ptr 4096 0 3 0 [],.ptr 8192 0 3 0 [],.int .u64 (q.num.natAbs:Nat),.int .u64 (q.den:Nat),.int .u64 (r.num.natAbs:Nat),.int .u64 (r.den:Nat)]) (os:=nV q r n m) (ps:=o5 b q.num.natAbs (if q.den=1 then 0 else q.den) r m fun _=>.rat 0 1) (nx:=8193) [(0,0),(4096,4096),(8192,8192)] hv hk0 (by simp[iA])
  ⟨⟨rfl,aN rfl⟩,⟨rfl,nE rfl⟩,⟨rfl,nE rfl⟩,⟨rfl,nE rfl⟩,⟨rfl,aN rfl⟩,⟨rfl,aN rfl⟩,⟨rfl,aN rfl⟩,⟨rfl,aN rfl⟩,trivial⟩
  ⟨⟨_,_,rfl,rfl,jq rfl fun i _=>aN rfl⟩,⟨_,_,rfl,rfl,jq rfl fun i _=>aN rfl⟩,⟨_,_,rfl,rfl,jq rfl fun i _=>mL rfl (by rw[<-hb];exact N3)⟩,trivial⟩) ?_
 have hD0:0<q.den*r.den:=aa
 have eqc:b=s->sQ s (q.num.natAbs*r.den+r.num.natAbs*q.den) (q.den*r.den)=q+sQ s r.num.natAbs r.den:=fun h=>by rw[hval,h,Hu hd0]
 have gec:b≠s->r.num.natAbs*q.den<=q.num.natAbs*r.den->sQ b (q.num.natAbs*r.den-r.num.natAbs*q.den) (q.den*r.den)=q+sQ s r.num.natAbs r.den:=fun h h'=>by rw[hval,Jk hd0 h h']
 have ltc:b≠s->q.num.natAbs*r.den<=r.num.natAbs*q.den->sQ s (r.num.natAbs*q.den-q.num.natAbs*r.den) (q.den*r.den)=q+sQ s r.num.natAbs r.den:=fun h h'=>by rw[hval,Jv hd0 h h']
 clear hval hv hN hR h1 h2 hb
 generalize q+sQ s r.num.natAbs r.den=V at*
 generalize q.num.natAbs*r.den=X at*
 generalize r.num.natAbs*q.den=Y at*
 generalize q.den*r.den=D at*
 have ws:∀{a b:Nat},b<=a->a<=18446744065119617025->IntKind.u64.wrap ((a:Int)-(b:Int))=((a-b:Nat):Int):=fun {a b} h1 h2=>by rw[cu aa aa];omega
 cases b<;>cases s
 ·refine ax.bA hT mB hm 60 ew Wu ag ?_
  rw[wx,wy,wd]
  simp only[ah.all,az,beq_iff_eq,aW]
  refine⟨⟨aa,aa,aa⟩,aa,fun hc=>⟨⟨aa,aa,aa⟩,fun s' hv=>ret ?_ hv⟩,fun hc=>⟨aa,aa,fun s' hv=>back hv⟩⟩
  have h:=eq_of_beq (jv hc)
  have e:(((X:Int)+(Y:Int)+0)%18446744073709551616).toNat=X+Y:=aa
  rw[e];exact eqc rfl
 ·refine ax.bA hT mB hm 60 ew ac4 ag ?_
  rw[wx,wy,wd]
  simp only[ah.all,az,beq_iff_eq,aW]
  refine⟨⟨aa,aa,aa⟩,aa,aa,fun hc=>?_,fun hc=>?_⟩
  ·have h:=of_decide_eq_true (jv hc)
   have h':Y<=X:=aa
   rw[ws h' bx]
   refine⟨⟨aa,aa,aa,aa⟩,fun s' hv=>ret ?_ hv⟩
   rw[aW];exact gec (by simp) h'
  ·have h:=of_decide_eq_false (jv hc)
   have h':X<=Y:=aa
   rw[ws h' by']
   refine⟨aa,⟨aa,aa,aa⟩,fun s' hv=>ret ?_ hv⟩
   rw[aW];exact ltc (by simp) h'
 ·refine ax.bA hT mB hm 60 ew afl ag ?_
  rw[wx,wy,wd]
  simp only[ah.all,az,beq_iff_eq,aW]
  refine⟨⟨aa,aa,aa⟩,aa,aa,fun hc=>?_,fun hc=>?_⟩
  ·have h:=of_decide_eq_true (jv hc)
   have h':Y<=X:=aa
   rw[ws h' bx]
   refine⟨⟨aa,aa,aa,aa⟩,fun s' hv=>ret ?_ hv⟩
   rw[aW];exact gec (by simp) h'
  ·have h:=of_decide_eq_false (jv hc)
   have h':X<=Y:=aa
   rw[ws h' by']
   refine⟨aa,⟨aa,aa,aa⟩,fun s' hv=>ret ?_ hv⟩
   rw[aW];exact ltc (by simp) h'
 ·refine ax.bA hT mB hm 60 ew agx ag ?_
  rw[wx,wy,wd]
  simp only[ah.all,az,beq_iff_eq,aW]
  refine⟨⟨aa,aa,aa⟩,aa,fun hc=>⟨⟨aa,aa,aa⟩,fun s' hv=>ret ?_ hv⟩,fun hc=>⟨aa,aa,fun s' hv=>back hv⟩⟩
  have h:=eq_of_beq (jv hc)
  have e:(((X:Int)+(Y:Int)+0)%18446744073709551616).toNat=X+Y:=aa
  rw[e];exact eqc rfl
theorem adE (hn:n<2^42) (hm':m<2^42) (K:Nat) (pre:aF):aE P Gf K [.rat q n,.rat r m,.bool s] pre (aK (.rat (q+sQ s r.num.natAbs r.den) (n+m+1)) []):=by
 refine jn fun⟨hq,hr,_⟩=>?_
 have hq:Sz q n:=hq
 have hr:Sz r m:=hr
 refine gr hT W9 rfl aX rfl (fun _ c h0=>?_) K pre
 have long:=fun {s':aM}=>MK (s:=s) (s':=s') h0 hq hr hn hm'
 have fin:∀{s':aM} {R:AV},ax P c fH.ntmps nH s' (dP c (Fin T fH R))->ax P c fH.ntmps nH s' (dH (fun s''=>aI P c fH.ntmps (behind (aA fH) [1,1]) s'' (dP c (Fin T fH R))) (dP c (Fin T fH R))):=
  fun h=>ax.mono h fun e s' h=>by cases e<;>exact h
 refine ax.hole [1,1] ag (aI.chunk 1 (aI.bA hT mB hm 60 ew aaA ag fun s' hv=>cJ ?_))
 show aI P c fH.ntmps [Kb] s' _
 refine aI.kj hv (h0 8193) rfl rfl CB ?_
 refine ax.hole [1,1] ag (aI.bA hT mB hm 60 (ew++[7,8,28]) aks ag ⟨show 0<1 by omega,fun s' hv=>cJ ?_⟩)
 refine ax.cond (b:=.tmp 28) (x:=GZ) (y:=.skip) (yw hv rfl rfl) (fun h1=>?_) (fun h1=>ax.skip (by exact fin (long (iL (ls:=ew) (l:=[7,8,28]) (vs:=iD s) hv rfl rfl))))
 simp only[h1,if_true]at hv
 have hv:=iL (ls:=ew++[7,8]) (l:=[28]) (vs:=iD s++[.int .u64 (q.num.natAbs:Nat),.int .u64 (q.den:Nat)]) hv rfl rfl
 refine ax.kj hv (h0 8193) rfl CB ?_
 refine ax.hole [1,1] ag (aI.bA hT mB hm 60 (ew++[7,8,10,11,35]) Y4 ag ⟨show 0<1 by omega,fun s' hv=>cJ ?_⟩)
 refine ax.cond (b:=.tmp 35) (x:=uz) (y:=.skip) (yw hv rfl rfl) (fun h2=>?_) (fun h2=>ax.skip (by exact fin (long (iL (ls:=ew) (l:=[7,8,10,11,35]) (vs:=iD s) hv rfl rfl))))
 simp only[h2,if_true]at hv
 exact aaG h0 hq hr hn hm' h1 h2 (iL (ls:=ew++[7,8,10,11]) (l:=[35]) (vs:=iD s++[.int .u64 (q.num.natAbs:Nat),.int .u64 (q.den:Nat),.int .u64 (r.num.natAbs:Nat),.int .u64 (r.den:Nat)]) hv rfl rfl)
  (fun s' h=>by exact fin h) (fun s' h=>by exact h)
end add
end Go.Am.B
