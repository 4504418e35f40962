/- rational.add, Add, Sub, Mul, Quo. -/
import Derived.Test.YtolopdkjjlfgjaaGreatY5
set_option linter.unusedVariables false
noncomputable section
namespace Go.Am.B
open Go Go.Am.N AV Proofs.Tryz IntKind
theorem QG {b:Bool} {N D k:Nat} (hk:k≠0):sQ b (N*k) (D*k)=sQ b N D:=by
 unfold sQ
 have:gC b (N*k)=gC b N*(k:Int):=by unfold gC;split<;>simp[Int.neg_mul]
 rw[this,Rat.mkRat_mul_right hk]
theorem I4 {a c:Int} {d:Nat} (hd:d≠0):mkRat a d+mkRat c d=mkRat (a+c) d:=by
 rw[Rat.mkRat_add_mkRat _ _ hd hd,<-Int.add_mul,Rat.mkRat_mul_right hd]
theorem EB {s:Bool} {X Y D:Nat} (hD:D≠0):sQ s X D+sQ s Y D=sQ s (X+Y) D:=by
 unfold sQ
 rw[I4 hD]
 congr 1
 unfold gC;split<;>simp<;>omega
theorem Fy {b s:Bool} {X Y D:Nat} (hD:D≠0) (hb:b≠s) (h:Y<=X):sQ b X D+sQ s Y D=sQ b (X-Y) D:=by
 unfold sQ
 rw[I4 hD]
 congr 1
 unfold gC
 cases b<;>cases s<;>simp at hb ⊢<;>omega
theorem HY {b s:Bool} {X Y D:Nat} (hD:D≠0) (hb:b≠s) (h:X<=Y):sQ b X D+sQ s Y D=sQ s (Y-X) D:=by
 unfold sQ
 rw[I4 hD]
 congr 1
 unfold gC
 cases b<;>cases s<;>simp at hb ⊢<;>omega
theorem ads {b s:Bool} {X Y:Nat}:gC b X*gC s Y=gC (b !=s) (X*Y):=by
 unfold gC
 cases b<;>cases s<;>simp[Int.neg_mul,Int.mul_neg]
theorem HF {b s:Bool} {X Y D E:Nat}:sQ b X D*sQ s Y E=sQ (b !=s) (X*Y) (D*E):=by
 unfold sQ
 rw[Rat.mkRat_mul_mkRat,ads]
theorem rM {q:Rat} (h:fO q=true):q.num.natAbs<4294967296/\q.den<4294967296:=by
 unfold fO at h
 simpa using h
theorem qC {a b:Nat} (ha:a<4294967296) (hb:b<4294967296):u64.wrap ((a:Int)*(b:Int))=((a*b:Nat):Int)/\a*b<=18446744065119617025:=by
 have h:=Nat.mul_le_mul (show a<=4294967295 by omega) (show b<=4294967295 by omega)
 refine⟨?_,h⟩
 rw[show(a:Int)*(b:Int)=((a*b:Nat):Int) by simp,cR aa aa]
section add
variable {q r:Rat} {n m:Nat} {s:Bool}
theorem X7 {f:Nat->AV} (hf:∀i,i<1->keys (f i)=[]) {b:Bool} {N D:Nat}:jW 8193 (qW b N D r m f):=⟨⟨aa,hf⟩,⟨aa,fun _ _=>rfl⟩,⟨aa,fun _ _=>rfl⟩,trivial⟩
theorem DI:jW 8193 (pP q r n m):=⟨⟨aa,fun _ _=>rfl⟩,⟨aa,fun _ _=>rfl⟩,⟨aa,fun _ _=>rfl⟩,trivial⟩
theorem FR (q r:Rat) (s:Bool):q+sQ s r.num.natAbs r.den=sQ (decide (q<0)) (q.num.natAbs*r.den) (q.den*r.den)+sQ s (r.num.natAbs*q.den) (q.den*r.den):=by
 rw[QG r.den_nz,mN,Nat.mul_comm q.den,QG q.den_nz]
theorem R6 {c:Ctx} (h0:∀nx k x,c.k0 k=some x->k<nx) (hq:Sz q n) (hr:Sz r m) (hn:n<2^42) (hm':m<2^42) {s':aP} (hv:bJ gk s'=some (jR s,pP q r n m)):
  az P c f164.ntmps p5 s' (gX c (Fin T f164 (.rat (q+sQ s r.num.natAbs r.den) (n+m+1)))):=by
 obtain⟨a1,a2,a3⟩:=Sz.lM hq aa
 obtain⟨b1,b2,b3⟩:=Sz.lM hr aa
 have d1:=q.den_nz
 have d2:=r.den_nz
 have hz:Sz (q+sQ s r.num.natAbs r.den) (n+m+1):=hq.add (Iy d2 hr.1 hr.2)
 have bx:∀{a b:Nat},a<2^n->b<2^m->nl (a*b)<2^40:=fun ha hb=>lW (n:=n+m) (by rw[Nat.pow_add];exact Nat.mul_lt_mul'' ha hb) aa
 have last:∀{s':aP} {X Y D k:Nat},k<2^43->X<2^k->Y<2^k->nl D<2^40->D≠0->q+sQ s r.num.natAbs r.den=sQ (decide (q<0)) X D+sQ s Y D->bJ (gk++[15,16,17]) s'=some (jR s++[.mag X,.mag Y,.mag D],pP q r n m)->
   aJ P c f164.ntmps [part p5 [1,1]] s' (gX c (Fin T f164 (.rat (q+sQ s r.num.natAbs r.den) (n+m+1)))):=by
  intro s' X Y D k hk hX2 hY2 hD hD0 heq hv
  have hX:=lW hX2 aa
  have hY:=lW hY2 aa
  have hXY:nl (X+Y)<2^40:=lW (n:=k+1) (by rw[Nat.pow_succ];omega) aa
  refine aJ.mw hT nT hm 60 hv (h0 _) rfl DI Zk ah rfl ?_
  simp only[ag.all,aC,beq_iff_eq,beq_eq_false_iff_ne,ne_eq]
  refine⟨aa,fun hb=>⟨⟨hX,hY,hXY,hD,aa⟩,aa,eM ?_ hz⟩,fun hb=>⟨⟨hX,hY⟩,fun hc=>⟨⟨aa,Nat.lt_of_le_of_lt (jz (Nat.sub_le _ _)) hX,hD,aa⟩,aa,eM ?_ hz⟩,fun hc=>⟨⟨hY,hX⟩,⟨Nat.lt_of_le_of_lt (jz (Nat.sub_le _ _)) hY,hD,aa⟩,aa,eM ?_ hz⟩⟩⟩
  ·rw[heq,hb,EB hD0]
  ·rw[heq,Fy hD0 hb (by split at hc<;>omega)]
  ·rw[heq,HY hD0 hb (by split at hc<;>omega)]
 have mulb:∀{a b:Nat},a<2^n->b<2^m->a*b<2^(n+m):=fun ha hb=>by rw[Nat.pow_add];exact Nat.mul_lt_mul'' ha hb
 refine az.hole [1,1] ah (aJ.gL hT nT hm 60 hv (h0 _) rfl DI (gk++[15,16,17]) Ur ah rfl ?_)
 simp only[ag.all,aC,Bool.not_eq_true',bR,Bool.not_eq_false',bI]
 have fin:∀{s':aP} {R:AV},aJ P c f164.ntmps [part p5 [1,1]] s' (gX c (Fin T f164 R))->az P c f164.ntmps (part p5 [1,1]) s' (fW (fun s''=>aJ P c f164.ntmps (behind p5 [1,1]) s'' (gX c (Fin T f164 R))) (gX c (Fin T f164 R))):=
  fun h=>az.mono h fun e s' h=>by cases e<;>exact h
 refine⟨⟨aa,aa,aa⟩,⟨aa,aa,a3,b3⟩,fun hb=>⟨⟨aa,a1,b2,aa,b1,a2,aa,a2,b2⟩,fun s' hv=>dx (fin (last (k:=n+m) aa (mulb hq.1 hr.2) ?_ (bx hq.2 hr.2) (Nat.mul_ne_zero d1 d2) (FR q r s) hv))⟩,fun hb s' hv=>dx (fin (last (k:=n+m) aa (Nat.lt_of_lt_of_le hq.1 (Nat.pow_le_pow_right aa aa)) (Nat.lt_of_lt_of_le hr.1 (Nat.pow_le_pow_right aa aa)) a2 d1 ?_ hv))⟩
 ·rw[Nat.mul_comm];exact mulb hq.2 hr.1
 ·have:q.den=r.den:=by split at hb<;>split at hb<;>omega
  rw[<-this,mN]
theorem akz {c:Ctx} (h0:∀nx k x,c.k0 k=some x->k<nx) (hq:Sz q n) (hr:Sz r m) (hn:n<2^42) (hm':m<2^42) (h1:fO q=true) (h2:fO r=true) {s':aP} {Q:au->aP->Prop}
  (hv:bJ (gk++[7,8,10,11]) s'=some (jR s++[.int .u64 (q.num.natAbs:Nat),.int .u64 (q.den:Nat),.int .u64 (r.num.natAbs:Nat),.int .u64 (r.den:Nat)],pP q r n m))
  (hN:∀s',az P c f164.ntmps p5 s' (gX c (Fin T f164 (.rat (q+sQ s r.num.natAbs r.den) (n+m+1))))->Q .normal s')
  (hR:∀s',gX c (Fin T f164 (.rat (q+sQ s r.num.natAbs r.den) (n+m+1))) .ret s'->Q .ret s'):az P c f164.ntmps xx s' Q:=by
 have d1:=q.den_nz
 have d2:=r.den_nz
 have hz:Sz (q+sQ s r.num.natAbs r.den) (n+m+1):=hq.add (Iy d2 hr.1 hr.2)
 obtain⟨q1,q2⟩:=rM h1
 obtain⟨r1,r2⟩:=rM h2
 have hval:=FR q r s
 obtain⟨b,hb⟩:∃b,decide (q<0)=b:=⟨_,rfl⟩
 rw[hb]at hval
 obtain⟨wx,bx⟩:=qC q1 r2
 obtain⟨wy,by'⟩:=qC r1 q2
 obtain⟨wd,bd⟩:=qC q2 r2
 have hd0:q.den*r.den≠0:=Nat.mul_ne_zero d1 d2
 have hk0:c.k0=bQ:=by
  funext k
  cases hk:c.k0 k with
  |none=>rfl
  |some x=>have:=h0 0 k x hk;omega
 -- the end by short numbers
 have ret:∀{s':aP} {N D k:Nat} {z:Rat},z=q+sQ s r.num.natAbs r.den->bJ gk s'=some (jR s,qW b N D r m fun j=>if j=0 then eE (.rat z k)else .rat 0 1)->Q .ret s':=by
  intro s' N D k z hzv hv
  refine hR _ (Bw adM hv (h0 8193) rfl (X7 fun i _=>?_) ⟨show 0<1 by omega,eM hzv hz⟩)
  split<;>rfl
 have back:∀{s':aP},bJ gk s'=some (jR s,qW b q.num.natAbs (if q.den=1 then 0 else q.den) r m fun _=>.rat 0 1)->Q .normal s':=by
  intro s' hv
  refine hN _ (az.od (fe (vs:=jR s) (ps:=pP q r n m) (nx:=8193) [(0,0),(4096,4096),(8192,8192)] hv hk0 (by simp[jy]) ⟨aY,⟨rfl,iY rfl⟩,⟨rfl,iY rfl⟩,⟨rfl,iY rfl⟩,trivial⟩
   ⟨⟨_,_,rfl,rfl,iQ rfl fun i _=>fR rfl⟩,⟨_,_,rfl,rfl,iQ rfl fun i _=>fR rfl⟩,⟨_,_,rfl,rfl,iQ rfl fun i _=>jD rfl ?_⟩,trivial⟩) ?_)
  ·rw[<-hb];exact N7 hq
  ·exact R6 h0 hq hr hn hm' (s:=s) rfl
 refine az.od (fe (us:=[.bool s,.ptr 0 0 3 0 [],.ptr 4096 0 3 0 [],.ptr 8192 0 3 0 [],.int .u64 (q.num.natAbs:Nat),.int .u64 (q.den:Nat),.int .u64 (r.num.natAbs:Nat),.int .u64 (r.den:Nat)])
   (vs:=[.bool s,.ptr 0 0 3 0 [],.ptr 4096 0 3 0 [],.ptr 8192 0 3 0 [],.int .u64 (q.num.natAbs:Nat),.int .u64 (q.den:Nat),.int .u64 (r.num.natAbs:Nat),.int .u64 (r.den:Nat)]) (os:=pP q r n m) (ps:=qW b q.num.natAbs (if q.den=1 then 0 else q.den) r m fun _=>.rat 0 1) (nx:=8193) [(0,0),(4096,4096),(8192,8192)] hv hk0 (by simp[jy])
  ⟨aY,⟨rfl,iY rfl⟩,⟨rfl,iY rfl⟩,⟨rfl,iY rfl⟩,aY,aY,aY,aY,trivial⟩
  ⟨⟨_,_,rfl,rfl,iQ rfl fun i _=>fR rfl⟩,⟨_,_,rfl,rfl,iQ rfl fun i _=>fR rfl⟩,⟨_,_,rfl,rfl,iQ rfl fun i _=>jD rfl (by rw[<-hb];exact Np)⟩,trivial⟩) ?_
 have hD0:0<q.den*r.den:=aa
 have eqc:b=s->sQ s (q.num.natAbs*r.den+r.num.natAbs*q.den) (q.den*r.den)=q+sQ s r.num.natAbs r.den:=fun h=>by rw[hval,h,EB hd0]
 have gec:b≠s->r.num.natAbs*q.den<=q.num.natAbs*r.den->sQ b (q.num.natAbs*r.den-r.num.natAbs*q.den) (q.den*r.den)=q+sQ s r.num.natAbs r.den:=fun h h'=>by rw[hval,Fy hd0 h h']
 have ltc:b≠s->q.num.natAbs*r.den<=r.num.natAbs*q.den->sQ s (r.num.natAbs*q.den-q.num.natAbs*r.den) (q.den*r.den)=q+sQ s r.num.natAbs r.den:=fun h h'=>by rw[hval,HY hd0 h h']
 clear hval hv hN hR h1 h2 hb
 generalize q+sQ s r.num.natAbs r.den=V at*
 generalize q.num.natAbs*r.den=X at*
 generalize r.num.natAbs*q.den=Y at*
 generalize q.den*r.den=D at*
 have ws:∀{a b:Nat},b<=a->a<=18446744065119617025->u64.wrap ((a:Int)-(b:Int))=((a-b:Nat):Int):=fun {a b} h1 h2=>by rw[cR aa aa];omega
 cases b<;>cases s
 ·refine az.bU hT nT hm 60 gk V8 ah ?_
  rw[wx,wy,wd]
  simp only[ag.all,aC,beq_iff_eq,bS]
  refine⟨⟨aa,aa,aa⟩,aa,fun hc=>⟨⟨aa,aa,aa⟩,fun s' hv=>ret ?_ hv⟩,fun hc=>⟨aa,aa,fun s' hv=>back hv⟩⟩
  have h:=eq_of_beq (kU hc)
  have e:(((X:Int)+(Y:Int)+0)%18446744073709551616).toNat=X+Y:=aa
  rw[e];exact eqc rfl
 ·refine az.bU hT nT hm 60 gk agm ah ?_
  rw[wx,wy,wd]
  simp only[ag.all,aC,beq_iff_eq,bS]
  refine⟨⟨aa,aa,aa⟩,aa,aa,fun hc=>?_,fun hc=>?_⟩
  ·have h:=of_decide_eq_true (kU hc)
   have h':Y<=X:=aa
   rw[ws h' bx]
   refine⟨⟨aa,aa,aa,aa⟩,fun s' hv=>ret ?_ hv⟩
   rw[bS];exact gec (by simp) h'
  ·have h:=of_decide_eq_false (kU hc)
   have h':X<=Y:=aa
   rw[ws h' by']
   refine⟨aa,⟨aa,aa,aa⟩,fun s' hv=>ret ?_ hv⟩
   rw[bS];exact ltc (by simp) h'
 ·refine az.bU hT nT hm 60 gk Vn ah ?_
  rw[wx,wy,wd]
  simp only[ag.all,aC,beq_iff_eq,bS]
  refine⟨⟨aa,aa,aa⟩,aa,aa,fun hc=>?_,fun hc=>?_⟩
  ·have h:=of_decide_eq_true (kU hc)
   have h':Y<=X:=aa
   rw[ws h' bx]
   refine⟨⟨aa,aa,aa,aa⟩,fun s' hv=>ret ?_ hv⟩
   rw[bS];exact gec (by simp) h'
  ·have h:=of_decide_eq_false (kU hc)
   have h':X<=Y:=aa
   rw[ws h' by']
   refine⟨aa,⟨aa,aa,aa⟩,fun s' hv=>ret ?_ hv⟩
   rw[bS];exact ltc (by simp) h'
 ·refine az.bU hT nT hm 60 gk ahW ah ?_
  rw[wx,wy,wd]
  simp only[ag.all,aC,beq_iff_eq,bS]
  refine⟨⟨aa,aa,aa⟩,aa,fun hc=>⟨⟨aa,aa,aa⟩,fun s' hv=>ret ?_ hv⟩,fun hc=>⟨aa,aa,fun s' hv=>back hv⟩⟩
  have h:=eq_of_beq (kU hc)
  have e:(((X:Int)+(Y:Int)+0)%18446744073709551616).toNat=X+Y:=aa
  rw[e];exact eqc rfl
theorem TX (hn:n<2^42) (hm':m<2^42) (K:Nat) (pre:aI):aW P 164 K [.rat q n,.rat r m,.bool s] pre (aO (.rat (q+sQ s r.num.natAbs r.den) (n+m+1)) []):=by
 refine lJ fun⟨hq,hr,_⟩=>?_
 have hq:Sz q n:=hq
 have hr:Sz r m:=hr
 refine jj hT ael rfl bh rfl (fun _ c h0=>?_) K pre
 have long:=fun {s':aP}=>R6 (s:=s) (s':=s') h0 hq hr hn hm'
 have fin:∀{s':aP} {R:AV},az P c f164.ntmps p5 s' (gX c (Fin T f164 R))->az P c f164.ntmps p5 s' (fW (fun s''=>aJ P c f164.ntmps (behind (aK f164) [1,1]) s'' (gX c (Fin T f164 R))) (gX c (Fin T f164 R))):=
  fun h=>az.mono h fun e s' h=>by cases e<;>exact h
 refine az.hole [1,1] ah (aJ.chunk 1 (aJ.bU hT nT hm 60 gk af2 ah fun s' hv=>dx ?_))
 show aJ P c f164.ntmps [E4] s' _
 refine aJ.lZ hv (h0 8193) rfl rfl DI ?_
 refine az.hole [1,1] ah (aJ.bU hT nT hm 60 (gk++[7,8,28]) Xw ah ⟨show 0<1 by omega,fun s' hv=>dx ?_⟩)
 refine az.cond (b:=.tmp 28) (x:=EA) (y:=.skip) (Al hv rfl rfl) (fun h1=>?_) (fun h1=>az.skip (by exact fin (long (lR (ls:=gk) (l:=[7,8,28]) (vs:=jR s) hv rfl rfl))))
 simp only[h1,if_true]at hv
 have hv:=lR (ls:=gk++[7,8]) (l:=[28]) (vs:=jR s++[.int .u64 (q.num.natAbs:Nat),.int .u64 (q.den:Nat)]) hv rfl rfl
 refine az.lZ hv (h0 8193) rfl DI ?_
 refine az.hole [1,1] ah (aJ.bU hT nT hm 60 (gk++[7,8,10,11,35]) ac8 ah ⟨show 0<1 by omega,fun s' hv=>dx ?_⟩)
 refine az.cond (b:=.tmp 35) (x:=xx) (y:=.skip) (Al hv rfl rfl) (fun h2=>?_) (fun h2=>az.skip (by exact fin (long (lR (ls:=gk) (l:=[7,8,10,11,35]) (vs:=jR s) hv rfl rfl))))
 simp only[h2,if_true]at hv
 exact akz h0 hq hr hn hm' h1 h2 (lR (ls:=gk++[7,8,10,11]) (l:=[35]) (vs:=jR s++[.int .u64 (q.num.natAbs:Nat),.int .u64 (q.den:Nat),.int .u64 (r.num.natAbs:Nat),.int .u64 (r.den:Nat)]) hv rfl rfl)
  (fun s' h=>by exact fin h) (fun s' h=>by exact h)
end add
end Go.Am.B
namespace Go.Am.B
open Go Go.Am.N AV Proofs.Tryz IntKind
theorem Yv:bu 128 f128:=bC func128
theorem T7:bu 143 f143:=bC func143
theorem XI:bu 130 f130:=bC func130
theorem ZX:bu 131 f131:=bC func131
theorem Xc:bu 71 f71:=bC func71
def Pj:Spec:=cD fun l=>match l with
 |[.rat q n,.rat r m,.bool s]=>some (aO (.rat (q+sQ s r.num.natAbs r.den) (n+m+1)) [n<2^42,m<2^42])
 |_=>none
def Nl:Spec:=cD fun l=>match l with
 |[.rat q n,.rat r m]=>some (aO (.int .i64 (g7 q r)) [n<2^42,m<2^42])
 |_=>none
abbrev Hp:FuncId×Spec:=(166,PG)
def GA:bE:=(164,Pj)::(58,Nl)::Hp::(134,NM)::(132,G6)::(133,IT)::[]
theorem aem {q r:Rat} {n m:Nat}:cy T GA [] 60 f128 (aK f128) ⟨aZ 0 [.rat q n,.rat r m],[],0⟩=
  let a:=0<1;some (ag.aj [a,a,a,n<2^42,m<2^42,a] (ag.aj [a] (ag.leaf au.ret [rat (q+sQ (decide (r<0)) r.num.natAbs r.den) (n+m+1)]))):=ah
theorem aeK {q r:Rat} {n m:Nat}:cy T GA [] 60 f143 (aK f143) ⟨aZ 0 [.rat q n,.rat r m],[],0⟩=
  let a:=0<1;some (ag.aj [a,a,a,n<2^42,m<2^42,a] (ag.aj [a] (ag.leaf au.ret [rat (q+sQ (!decide (r<0)) r.num.natAbs r.den) (n+m+1)]))):=ah
theorem X9 {q r:Rat} {n m:Nat}:cy T GA [8] 60 f130 (aK f130) ⟨aZ 0 [.rat q n,.rat r m],[],0⟩=
  let a:=0<1;some (ag.aj [a,a,m<2^42,n<2^42] (ag.fork (decide (g7 r q<0)) (ag.aj [a,a] (ag.aj [a,m<2^44,a] (ag.aj [a] (ag.leaf au.ret [rat r m])))) (ag.aj [a,n<2^44,a] (ag.aj [a] (ag.leaf au.ret [rat q n]))))):=ah
theorem SW {q r:Rat} {n m:Nat}:cy T GA [8] 60 f131 (aK f131) ⟨aZ 0 [.rat q n,.rat r m],[],0⟩=
  let a:=0<1;some (ag.aj [a,a,m<2^42,n<2^42] (ag.fork (decide (g7 r q>0)) (ag.aj [a,a] (ag.aj [a,m<2^44,a] (ag.aj [a] (ag.leaf au.ret [rat r m])))) (ag.aj [a,n<2^44,a] (ag.aj [a] (ag.leaf au.ret [rat q n]))))):=ah
theorem agJ {n:Int}:cy T GA [] 60 f71 (aK f71) ⟨aZ 0 [.int .i64 n],[],0⟩=
  let a:=sQ (decide (n<0)) n.natAbs 1;some (ag.aj [-(2:Int)^63<=n,n<2^63,nl n.natAbs<2^40,nl 1<2^40,(0:Nat)<1] (ag.aj [(0:Nat)<1] (ag.leaf au.ret [rat a (eJ a)]))):=ah
theorem abl {q r:Rat} {n m:Nat}:cy T GQ [20,23,34,47,49,56,63,76] 60 f58 (aK f58) ⟨aZ 0 [.rat q n,.rat r m],[],0⟩=
  let h:ag (List AV):=ag.leaf au.ret [int .i64 (0:Int)];let d:=q.num.natAbs;let b:=r.num.natAbs;let g:ag (List AV):=ag.leaf au.ret [int .i64 (1:Int)];let e:=decide (q<0);let j:ag (List AV):=ag.leaf au.ret [int .i64 (-1:Int)];let t:=if r.den=1 then 0 else r.den;let s:=if q.den=1 then 0 else q.den;let f:=2^40;let a:=0<1;let i:=eu (d*r.den) (b*q.den);let p:=u64.wrap ((↑(if fO q=true then d else 0):Int)*(↑(if fO r=true then r.den else 0):Int));let o:=u64.wrap ((↑(if fO r=true then b else 0):Int)*(↑(if fO q=true then q.den else 0):Int));let l:ag (List AV):=ag.aj [a,a,nl d<f,nl r.den<f,a,a,nl b<f,nl q.den<f,nl (d*r.den)<f,nl (b*q.den)<f] (ag.aj [a] (ag.fork e (ag.leaf au.ret [int .i64 (i64.wrap ((0:Int)-i))]) (ag.leaf au.ret [int .i64 i])));let k:ag (List AV):=ag.fork (decide (p<o)) (ag.aj [a] (ag.fork e g j)) (ag.fork (decide (p>o)) (ag.aj [a] (ag.fork e j g)) (ag.aj [a] (ag.fork e h h)));some (ag.aj [a,n<2^44,a,m<2^44] (ag.fork (bK q !=bK r) (ag.fork (decide (bK q<bK r)) j g) (ag.aj [a] (ag.aj [a,a,nl s<f,nl t<f] (ag.fork (decide (s=t)) (ag.aj [a,a,nl d<f,nl b<f] (ag.aj [a] (ag.fork e (ag.leaf au.ret [int .i64 (i64.wrap ((0:Int)-eu d b))]) (ag.leaf au.ret [int .i64 (eu d b)])))) (ag.aj [a] (ag.fork (fO q) (ag.aj [fO q=true] (ag.fork (bif true then fO r else false) k l)) (ag.aj [fO q=false] (ag.fork false k l))))))))):=ah
theorem XC:bp P Pj 164:=by
 refine cZ fun K args r hk hs _=>?_
 split at hs
 ·simp only[aB]at hs
  subst hs
  exact fun need=>TX need.1 need.2 K [] trivial
 ·simp at hs
theorem CI {q r:Rat} (h:bK q≠bK r):g7 q r=if bK q<bK r then-1 else 1:=by
 unfold bK g7 at*
 grind
theorem WA {a b:Nat}:-eu a b=eu b a:=by unfold eu;split<;>split<;>omega
theorem Mx {a b k:Nat} (hk:0<k):eu (a*k) (b*k)=eu a b:=by
 unfold eu
 simp only[Nat.mul_lt_mul_right hk]
theorem Bx {a b:Nat}:i64.wrap (0-eu a b)=-eu a b:=by
 have:eu a b=-1\/eu a b=0\/eu a b=1:=by unfold eu;split;exact .inl rfl;split;exact .inr (.inr rfl);exact .inr (.inl rfl)
 rcases this with h|h|h<;>rw[h]<;>rfl
theorem p9 {q r:Rat} (h:bK q=bK r):g7 q r=if q<0 then-eu (q.num.natAbs*r.den) (r.num.natAbs*q.den)else eu (q.num.natAbs*r.den) (r.num.natAbs*q.den):=by
 have h1:q<0↔r<0:=by unfold bK at h;grind
 have e1:∀{a b:Nat},(-(a:Int))*(b:Int)=-((a*b:Nat):Int):=fun {a b}=>by simp[Int.neg_mul]
 have e2:∀{a b:Nat},(a:Int)*(b:Int)=((a*b:Nat):Int):=fun {a b}=>by simp
 unfold g7
 by_cases hq:q<0
 ·have hr:=h1.1 hq
  have q1:q.num=-(q.num.natAbs:Int):=by have:=kA.1 hq;omega
  have r1:r.num=-(r.num.natAbs:Int):=by have:=kA.1 hr;omega
  have l1:q<r↔r.num.natAbs*q.den<q.num.natAbs*r.den:=by
   rw[Rat.lt_iff]
   conv=>lhs;rw[q1,r1,e1,e1]
   omega
  have l2:r<q↔q.num.natAbs*r.den<r.num.natAbs*q.den:=by
   rw[Rat.lt_iff]
   conv=>lhs;rw[q1,r1,e1,e1]
   omega
  rw[if_pos hq,WA]
  unfold eu
  simp only[l1,l2]
 ·have hr:¬r<0:=fun h=>hq (h1.2 h)
  have q1:q.num=(q.num.natAbs:Int):=by have:¬q.num<0:=fun h=>hq (kA.2 h);omega
  have r1:r.num=(r.num.natAbs:Int):=by have:¬r.num<0:=fun h=>hr (kA.2 h);omega
  have l1:q<r↔q.num.natAbs*r.den<r.num.natAbs*q.den:=by
   rw[Rat.lt_iff]
   conv=>lhs;rw[q1,r1,e2,e2]
   omega
  have l2:r<q↔r.num.natAbs*q.den<q.num.natAbs*r.den:=by
   rw[Rat.lt_iff]
   conv=>lhs;rw[q1,r1,e2,e2]
   omega
  rw[if_neg hq]
  unfold eu
  simp only[l1,l2]
theorem QH {q r:Rat} {n m:Nat} (hn:n<2^42) (hm':m<2^42) (K:Nat) (pre:aI):aW P 58 K [.rat q n,.rat r m] pre (aO (.int .i64 (g7 q r)) []):=by
 refine lJ fun⟨hq,hr,_⟩=>?_
 have hq:Sz q n:=hq
 have hr:Sz r m:=hr
 obtain⟨a1,a2,a3⟩:=Sz.lM hq aa
 obtain⟨b1,b2,b3⟩:=Sz.lM hr aa
 have d1:=q.den_nz
 have d2:=r.den_nz
 have m1:nl (q.num.natAbs*r.den)<2^40:=lW (n:=n+m) (by rw[Nat.pow_add];exact Nat.mul_lt_mul'' hq.1 hr.2) aa
 have m2:nl (r.num.natAbs*q.den)<2^40:=lW (n:=m+n) (by rw[Nat.pow_add];exact Nat.mul_lt_mul'' hr.1 hq.2) aa
 refine cB hT nT hm SO rfl bh rfl 60 abl (fun _=>?_) K pre
 simp only[ag.all,aC,bne_iff_ne,ne_eq,bne_eq_false_iff_eq]
 refine⟨⟨aa,aa,aa,aa⟩,fun hs=>⟨fun hl=>cE ?_,fun hl=>cE ?_⟩,fun hs=>⟨aa,⟨aa,aa,a3,b3⟩,fun hd=>⟨⟨aa,aa,a1,b1⟩,aa,fun hc=>cE ?_,fun hc=>cE ?_⟩,fun hd=>⟨aa,fun hp=>⟨hp,fun hp2=>?_,fun hp2=>⟨⟨aa,aa,a1,b2,aa,aa,b1,a2,m1,m2⟩,aa,fun hc=>cE ?_,fun hc=>cE ?_⟩⟩,fun hp=>⟨hp,fun h=>by simp at h,fun _=>⟨⟨aa,aa,a1,b2,aa,aa,b1,a2,m1,m2⟩,aa,fun hc=>cE ?_,fun hc=>cE ?_⟩⟩⟩⟩⟩
 ·rw[CI hs,if_pos (of_decide_eq_true hl)]
 ·rw[CI hs,if_neg (of_decide_eq_false hl)]
 ·have hd:=of_decide_eq_true hd
  have e:q.den=r.den:=by split at hd<;>split at hd<;>omega
  rw[p9 hs,if_pos (of_decide_eq_true hc),e,Mx aa,Bx]
 ·have hd:=of_decide_eq_true hd
  have e:q.den=r.den:=by split at hd<;>split at hd<;>omega
  rw[p9 hs,if_neg (of_decide_eq_false hc),e,Mx aa]
 ·have hp2:=kU hp2
  obtain⟨q1,q2⟩:=rM hp
  obtain⟨r1,r2⟩:=rM hp2
  rw[if_pos hp,if_pos hp2,if_pos hp2,if_pos hp,(qC q1 r2).1,(qC r1 q2).1]
  have hcs:=p9 hs
  generalize q.num.natAbs*r.den=X at*
  generalize r.num.natAbs*q.den=Y at*
  unfold eu at hcs
  refine⟨fun h1=>⟨aa,fun hc=>cE ?_,fun hc=>cE ?_⟩,fun h1=>⟨fun h2=>⟨aa,fun hc=>cE ?_,fun hc=>cE ?_⟩,fun h2=>⟨aa,fun hc=>cE ?_,fun hc=>cE ?_⟩⟩⟩
  all_goals rw[hcs]
  ·rw[if_pos (of_decide_eq_true hc),if_pos (by have:=of_decide_eq_true h1;omega)];rfl
  ·rw[if_neg (of_decide_eq_false hc),if_pos (by have:=of_decide_eq_true h1;omega)]
  ·rw[if_pos (of_decide_eq_true hc),if_neg (by have:=of_decide_eq_false h1;omega),if_pos (by have:=of_decide_eq_true h2;omega)]
  ·rw[if_neg (of_decide_eq_false hc),if_neg (by have:=of_decide_eq_false h1;omega),if_pos (by have:=of_decide_eq_true h2;omega)]
  ·rw[if_pos (of_decide_eq_true hc),if_neg (by have:=of_decide_eq_false h1;omega),if_neg (by have:=of_decide_eq_false h2;omega)];rfl
  ·rw[if_neg (of_decide_eq_false hc),if_neg (by have:=of_decide_eq_false h1;omega),if_neg (by have:=of_decide_eq_false h2;omega)]
 ·rw[p9 hs,if_pos (of_decide_eq_true hc),Bx]
 ·rw[p9 hs,if_neg (of_decide_eq_false hc)]
 ·rw[p9 hs,if_pos (of_decide_eq_true hc),Bx]
 ·rw[p9 hs,if_neg (of_decide_eq_false hc)]
theorem agC:bp P Nl 58:=by
 refine cZ fun K args r hk hs _=>?_
 split at hs
 ·simp only[aB]at hs
  subst hs
  exact fun need=>QH need.1 need.2 K [] trivial
 ·simp at hs
theorem agT:bp P Hp.2 Hp.1:=U3
theorem Ba:bY P GA:=aM XC (aM agC (aM agT (aM ajJ (aM L4 (aM JJ cJ)))))
section ops
variable {q r:Rat} {n m:Nat}
theorem afn (hn:n<2^42) (hm':m<2^42) (K:Nat):aW P 128 K [.rat q n,.rat r m] [] (aO (.rat (q+r) (n+m+1)) []):=by
 refine cB hT Ba hm Yv rfl bh rfl 60 aem (fun _=>?_) K []
 simp only[ag.all,aC,mN]
 exact⟨⟨aa,aa,aa,hn,hm',aa⟩,aa,.refl _⟩
theorem agU (r:Rat):sQ (!decide (r<0)) r.num.natAbs r.den=-r:=by
 have h:=mN r
 conv=>rhs;rw[<-h]
 unfold sQ
 rw[Rat.neg_mkRat]
 congr 1
 unfold gC
 by_cases h:r<0<;>simp[h]
theorem ahp (hn:n<2^42) (hm':m<2^42) (K:Nat):aW P 143 K [.rat q n,.rat r m] [] (aO (.rat (q-r) (n+m+1)) []):=by
 refine cB hT Ba hm T7 rfl bh rfl 60 aeK (fun _=>?_) K []
 simp only[ag.all,aC,agU]
 exact⟨⟨aa,aa,aa,hn,hm',aa⟩,aa,fG (by rw[Rat.sub_eq_add_neg])⟩
def fk (q r:Rat):Rat:=if r<q then r else q
def fl (q r:Rat):Rat:=if q<r then r else q
theorem CY {q r:Rat}:g7 q r<0↔q<r:=by unfold g7;grind
theorem Pq {q r:Rat}:g7 q r>0↔r<q:=by unfold g7;grind
theorem aiN (hn:n<2^42) (hm':m<2^42) (K:Nat):aW P 130 K [.rat q n,.rat r m] [] (aO (.rat (fk q r) (max n m)) []):=by
 refine cB hT Ba hm XI rfl bh rfl 60 X9 (fun _=>?_) K []
 simp only[ag.all,aC,bI,bR,CY]
 refine⟨⟨aa,aa,hm',hn⟩,fun h=>⟨⟨aa,aa⟩,⟨aa,aa,aa⟩,aa,?_⟩,fun h=>⟨⟨aa,aa,aa⟩,aa,?_⟩⟩
 ·unfold fk;rw[if_pos h];exact mB (Nat.le_max_right _ _)
 ·unfold fk;rw[if_neg h];exact mB (Nat.le_max_left _ _)
theorem afw (hn:n<2^42) (hm':m<2^42) (K:Nat):aW P 131 K [.rat q n,.rat r m] [] (aO (.rat (fl q r) (max n m)) []):=by
 refine cB hT Ba hm ZX rfl bh rfl 60 SW (fun _=>?_) K []
 simp only[ag.all,aC,bI,bR,Pq]
 refine⟨⟨aa,aa,hm',hn⟩,fun h=>⟨⟨aa,aa⟩,⟨aa,aa,aa⟩,aa,?_⟩,fun h=>⟨⟨aa,aa,aa⟩,aa,?_⟩⟩
 ·unfold fl;rw[if_pos h];exact mB (Nat.le_max_right _ _)
 ·unfold fl;rw[if_neg h];exact mB (Nat.le_max_left _ _)
theorem abe {n:Int}:sQ (decide (n<0)) n.natAbs 1=(n:Rat):=by
 unfold sQ
 have:gC (decide (n<0)) n.natAbs=n:=by unfold gC;by_cases h:n<0<;>simp[h]<;>omega
 rw[this,Rat.mkRat_one]
theorem Je {n:Int}:Sz (n:Rat) (max 1 (ck n.natAbs)):=by
 refine⟨?_,?_⟩
 ·rw[Rat.num_intCast]
  exact Nat.lt_of_lt_of_le (kJ.1 aX) (Nat.pow_le_pow_right aa (Nat.le_max_right _ _))
 ·rw[Rat.den_intCast]
  exact Nat.lt_of_lt_of_le (show 1<2^1 by omega) (Nat.pow_le_pow_right aa (Nat.le_max_left _ _))
theorem Zi {n:Int} (h1:-2^63<=n) (h2:n<2^63) (K:Nat):aW P 71 K [.int .i64 n] [] (aO (.rat (n:Rat) (max 1 (ck n.natAbs))) []):=by
 refine cB hT Ba hm Xc rfl bh rfl 60 agJ (fun _=>?_) K []
 simp only[ag.all,aC,abe]
 exact⟨⟨h1,h2,lW (n:=64) aa aa,by decide,aa⟩,aa,eM rfl Je⟩
theorem JX (hn:n<2^42) (hm':m<2^42) (K:Nat):aW P 129 K [.rat q n,.rat r m] [] (aO (.rat (q*r) (n+m)) []):=by
 refine lJ fun⟨hq,hr,_⟩=>?_
 have hq:Sz q n:=hq
 have hr:Sz r m:=hr
 obtain⟨a1,a2,a3⟩:=Sz.lM hq aa
 obtain⟨b1,b2,b3⟩:=Sz.lM hr aa
 have d1:=q.den_nz
 have d2:=r.den_nz
 have m1:nl (q.num.natAbs*r.num.natAbs)<2^40:=lW (n:=n+m) (by rw[Nat.pow_add];exact Nat.mul_lt_mul'' hq.1 hr.1) aa
 have m2:nl (q.den*r.den)<2^40:=lW (n:=n+m) (by rw[Nat.pow_add];exact Nat.mul_lt_mul'' hq.2 hr.2) aa
 have hz:=hq.mul hr
 have hv:sQ (decide (q<0)!=decide (r<0)) (q.num.natAbs*r.num.natAbs) (q.den*r.den)=q*r:=by rw[<-HF,mN,mN]
 have hzero:q=0\/r=0->bf (.agg [.bool false,.mag 0,.mag 0]) (.rat (q*r) (n+m)):=by
  intro h
  have e:q*r=0:=by rcases h with h|h<;>subst h<;>simp
  obtain⟨k,hk⟩:∃k,n+m=k+1:=⟨n+m-1,by have:=hq.pos;omega⟩
  rw[e,hk];exact p8
 refine cB hT nT hm UI rfl bh rfl 60 aa5 (fun _=>?_) K []
 have hlong:(ag.aj
         [(0:Nat)<1,(0:Nat)<1,(0:Nat)<1,(0:Nat)<1,nl q.num.natAbs<2^40,nl r.num.natAbs<2^40,(0:Nat)<1,(0:Nat)<1,nl q.den<2^40,nl r.den<2^40,nl (q.num.natAbs*r.num.natAbs)<2^40,nl (q.den*r.den)<2^40,(0:Nat)<1]
         (ag.aj [(0:Nat)<1]
          (ag.leaf au.ret
           [AV.rat (sQ (decide (q<0)!=decide (r<0)) (q.num.natAbs*r.num.natAbs) (q.den*r.den))
             (eJ (sQ (decide (q<0)!=decide (r<0)) (q.num.natAbs*r.num.natAbs) (q.den*r.den)))]))).all fun _ us=>iK us (.rat (q*r) (n+m)):=by
  simp only[ag.all,aC]
  exact⟨⟨aa,aa,aa,aa,a1,b1,aa,aa,a2,b2,m1,m2,aa⟩,aa,eM hv hz⟩
 refine⟨fun hb=>⟨⟨show 0<1 by omega,hb⟩,fun _=>⟨show 0<1 by omega,show 0<1 by omega,hzero (.inl ?_)⟩,fun h=>by simp at h⟩,fun hb=>⟨⟨show 0<1 by omega,hb,show 0<1 by omega⟩,fun hc=>⟨show 0<1 by omega,show 0<1 by omega,hzero (.inr ?_)⟩,fun hc=>⟨show 0<1 by omega,fun h1=>⟨show 0<1 by omega,fun h2=>?_,fun h2=>hlong⟩,fun h1=>hlong⟩⟩⟩
 ·have:=eq_of_beq hb
  exact pR.1 (lz.1 aa)
 ·have:=eq_of_beq (jT hc)
  exact pR.1 (lz.1 aa)
 ·obtain⟨q1,q2⟩:=rM h1
  obtain⟨r1,r2⟩:=rM h2
  obtain⟨wx,bx⟩:=qC q1 r1
  obtain⟨wd,bd⟩:=qC q2 r2
  have hd0:q.den*r.den≠0:=Nat.mul_ne_zero d1 d2
  rw[if_pos h1,if_pos h2,if_pos h1,if_pos h2,wx,wd]
  simp only[ag.all,aC,bS]
  exact⟨⟨aa,aa,aa,aa,aa⟩,aa,eM hv hz⟩
theorem Gw (q r:Rat) (hr:r≠0):sQ (decide (q<0)!=decide (r<0)) (q.num.natAbs*r.den) (q.den*r.num.natAbs)=q/r:=by
 have hn:r.num≠0:=fun h=>hr (Rat.num_eq_zero.1 h)
 have hi:r⁻¹=sQ (decide (r<0)) r.den r.num.natAbs:=by
  rw[<-mN r⁻¹]
  have e1:r⁻¹.num.natAbs=r.den:=by rw[Rat.num_inv,Int.natAbs_mul,Int.natAbs_natCast,Int.natAbs_sign_of_ne_zero hn,Nat.one_mul]
  have e2:r⁻¹.den=r.num.natAbs:=by rw[Rat.den_inv,if_neg hn]
  have e3:decide (r⁻¹<0)=decide (r<0):=by
   rw[decide_eq_decide,kA,kA,Rat.num_inv]
   have hd:=r.den_nz
   have hd':(0:Int)<(r.den:Int):=aa
   rcases Int.lt_trichotomy r.num 0 with h|h|h
   ·rw[Int.sign_eq_neg_one_of_neg h];omega
   ·exact absurd h hn
   ·rw[Int.sign_eq_one_of_pos h];omega
  rw[e1,e2,e3]
 rw[Rat.div_def,hi]
 conv=>rhs;rw[<-mN q]
 rw[HF]
theorem EM (hn:n<2^42) (hm':m<2^42) (K:Nat):aW P 142 K [.rat q n,.rat r m] [] (aO (.tuple [.rat (q/r) (n+m),.int .i64 (if r=0 then 3 else 0)]) []):=by
 refine lJ fun⟨hq,hr,_⟩=>?_
 have hq:Sz q n:=hq
 have hr:Sz r m:=hr
 obtain⟨a1,a2,a3⟩:=Sz.lM hq aa
 obtain⟨b1,b2,b3⟩:=Sz.lM hr aa
 have d1:=q.den_nz
 have d2:=r.den_nz
 have m1:nl (q.num.natAbs*r.den)<2^40:=lW (n:=n+m) (by rw[Nat.pow_add];exact Nat.mul_lt_mul'' hq.1 hr.2) aa
 have m2:nl (q.den*r.num.natAbs)<2^40:=lW (n:=n+m) (by rw[Nat.pow_add];exact Nat.mul_lt_mul'' hq.2 hr.1) aa
 have hz:=hq.div hr
 have sg:∀{x:Rat},bK x=0↔x=0:=by intro x;unfold bK;grind
 refine cB hT nT hm adz rfl bh rfl 60 aku (fun _=>?_) K []
 refine⟨⟨show 0<1 by omega,show m<2^44 by omega⟩,fun hb=>⟨show 0<1 by omega,show 0<1 by omega,?_,?_,trivial⟩,fun hb=>⟨show 0<1 by omega,?_⟩⟩
 ·have h0:r=0:=sg.1 (eq_of_beq hb)
  have e:q/r=0:=by rw[h0,Rat.div_def,Rat.inv_zero,Rat.mul_zero]
  obtain⟨k,hk⟩:∃k,n+m=k+1:=⟨n+m-1,by have:=hq.pos;omega⟩
  rw[e,hk];exact p8
 ·have h0:r=0:=sg.1 (eq_of_beq hb)
  exact cE (by rw[if_pos h0])
 have h0:r≠0:=fun h=>by
  rw[h]at hb
  simp[bK]at hb
 have hv:=Gw q r h0
 have he:bf (.int .i64 0) (.int .i64 (if r=0 then 3 else 0)):=cE (by rw[if_neg h0])
 have hlong:(ag.aj
         [(0:Nat)<1,(0:Nat)<1,(0:Nat)<1,(0:Nat)<1,nl q.num.natAbs<2^40,nl r.den<2^40,(0:Nat)<1,(0:Nat)<1,nl q.den<2^40,nl r.num.natAbs<2^40,nl (q.num.natAbs*r.den)<2^40,nl (q.den*r.num.natAbs)<2^40,(0:Nat)<1]
         (ag.aj [(0:Nat)<1]
          (ag.leaf au.ret
           [AV.rat (sQ (decide (q<0)!=decide (r<0)) (q.num.natAbs*r.den) (q.den*r.num.natAbs))
             (eJ (sQ (decide (q<0)!=decide (r<0)) (q.num.natAbs*r.den) (q.den*r.num.natAbs))),.int .i64 0]))).all fun _ us=>iK us (.tuple [.rat (q/r) (n+m),.int .i64 (if r=0 then 3 else 0)]):=by
  simp only[ag.all,aC]
  exact⟨⟨aa,aa,aa,aa,a1,b2,aa,aa,a2,b1,m1,m2,aa⟩,aa,eM hv hz,he,trivial⟩
 refine⟨fun h1=>⟨show 0<1 by omega,fun h2=>?_,fun h2=>hlong⟩,fun h1=>hlong⟩
 obtain⟨q1,q2⟩:=rM h1
 obtain⟨r1,r2⟩:=rM h2
 obtain⟨wx,bx⟩:=qC q1 r2
 obtain⟨wd,bd⟩:=qC q2 r1
 have hr0:r.num.natAbs≠0:=fun h=>h0 (pR.1 h)
 have hd0:q.den*r.num.natAbs≠0:=Nat.mul_ne_zero d1 hr0
 rw[if_pos h1,if_pos h2,if_pos h1,if_pos h2,wx,wd]
 simp only[ag.all,aC,bS]
 exact⟨⟨aa,aa,aa,aa,aa⟩,aa,eM hv hz,he,trivial⟩
end ops
def J9:Spec:=cD fun l=>match l with
 |[.int .i64 n]=>some (aO (.rat (n:Rat) (max 1 (ck n.natAbs))) [-2^63<=n,n<2^63])
 |_=>none
theorem aeY:bp P J9 71:=by
 refine cZ fun K args r hk hs _=>?_
 split at hs
 ·simp only[aB]at hs
  subst hs
  exact fun need=>Zi need.1 need.2 K trivial
 ·simp at hs
end Go.Am.B
namespace Go.Am.B
open Go Go.Am.N AV Proofs.Tryz IntKind
theorem adU:bu 140 f140:=bC func140
theorem aiY:bu 138 f138:=bC func138
theorem aiV:bu 186 f186:=bC func186
theorem agt:bu 84 f84:=bC func84
theorem agb:bu 187 f187:=bC func187
theorem WB {n:Nat} {z:Nat->Nat}:aL T [] [] 30 [0,3] (before (aK f140) [1,1,0]) ⟨aZ 0 [.aq 1 n (aF z)],[],0⟩=
  some (ag.leaf au.normal ([aq 1 n (aF z),int .i64 (↑n:Int)],[])):=ah
theorem ae0 {n k:Nat} {z:Nat->Nat}:aL T [] [8,15] 30 [0,3] [part (aK f140) [1,1,0,0,0]] ⟨aH [0,3] [.aq 1 n (aF z),.int .i64 k],[],0⟩=
  some (ag.fork (decide ((↑k:Int)>0)) (ag.aj [decide ((↑k:Int)>0)=true,(0:Int)<=i64.wrap ((↑k:Int)-1)/\(i64.wrap ((↑k:Int)-1)).toNat<n] (ag.fork (bif true then(↑(z (i64.wrap ((↑k:Int)-1)).toNat):Int)==0 else false) (ag.leaf au.normal ([aq 1 n (aF z),int .i64 (i64.wrap ((↑k:Int)-1))],[])) (ag.leaf (au.exit 0) ([aq 1 n (aF z),int .i64 (↑k:Int)],[])))) (ag.aj [decide ((↑k:Int)>0)=false] (ag.fork false (ag.leaf au.normal ([aq 1 n (aF z),int .i64 (i64.wrap ((↑k:Int)-1))],[])) (ag.leaf (au.exit 0) ([aq 1 n (aF z),int .i64 (↑k:Int)],[]))))):=ah
theorem UG {n k:Nat} {z:Nat->Nat}:dc T [] [] 30 f140 (behind (aK f140) [1,1,0]) ⟨aH [0,3] [.aq 1 n (aF z),.int .i64 k],[],0⟩=
  some (ag.aj [(0:Nat)*1<=2^24,(0:Int)<=0/\(0:Int)<=(↑k:Int)/\(↑k:Int)<=(↑k:Int)/\(↑k:Int)<=(↑n:Int),((0:Nat)+((↑k:Int).toNat-Int.toNat (0:Int)))*((4:Nat)+1)*2<=2^47] (ag.leaf au.ret [aq 1 ((0:Nat)+((↑k:Int).toNat-Int.toNat (0:Int))) fun(i:Nat)=>if i+0<0 then nth [] (int .u32 (0:Int)) (i+0)else aF z (i+0-0+Int.toNat (0:Int))])):=ah
def wI:Spec:=cD (ni fun N n=>aO (.mag N) [n<2^40])
def gn:bE:=[(140,wI)]
theorem ac7 {n:Nat}:cy T gn [] 30 f138 (aK f138) ⟨aZ 0 [.int .u64 n],[],0⟩=
  some (ag.aj [(0:Int)<=32,(2:Nat)*1<=2^24,fL 2 fun(i:Nat)=>nth [int .u32 (u32.wrap (↑n:Int)),int .u32 (u32.wrap ((↑n:Int).fdiv ((2:Int)^min (Int.toNat (32:Int)) u64.bits)))] (int .u32 (0:Int)) (i+0),(2:Nat)<2^40] (ag.leaf au.ret [mag (val 2 fun(i:Nat)=>numOf (nth [int .u32 (u32.wrap (↑n:Int)),int .u32 (u32.wrap ((↑n:Int).fdiv ((2:Int)^min (Int.toNat (32:Int)) u64.bits)))] (int .u32 (0:Int)) (i+0)))])):=ah
theorem Xo {A:Nat}:cy T gn [6,8,14] 30 f186 (aK f186) ⟨aZ 0 [.mag A],[],0⟩=
  some (ag.fork ((↑(nl A):Int)==0) (ag.leaf au.ret [int .u64 (0:Int),AV.bool true]) (ag.fork ((↑(nl A):Int)==1) (ag.aj [(0:Int)<=0/\Int.toNat (0:Int)<nl A] (ag.leaf au.ret [int .u64 (u64.wrap (↑(aG A (Int.toNat (0:Int))):Int)),AV.bool true])) (ag.fork ((↑(nl A):Int)==2) (ag.aj [(0:Int)<=0/\Int.toNat (0:Int)<nl A,(0:Int)<=1/\Int.toNat (1:Int)<nl A,(0:Int)<=32] (ag.leaf au.ret [int .u64 (u64.wrap (↑(BitVec.ofInt u64.bits (u64.wrap (↑(aG A (Int.toNat (0:Int))):Int))|||BitVec.ofInt u64.bits (u64.wrap (u64.wrap (↑(aG A (Int.toNat (1:Int))):Int)*2^min (Int.toNat (32:Int)) u64.bits))).toNat:Int)),AV.bool true])) (ag.leaf au.ret [int .u64 (0:Int),AV.bool false])))):=ah
theorem Vf {A B:Nat}:aL T [] [10,15] 30 [0,1,5,4] (before (aK f84) [1,1,0,1]) ⟨aZ 0 [.mag A,.mag B],[],0⟩=
  some (ag.fork ((↑(nl A):Int)!=(↑(nl B):Int)) (ag.fork (decide ((↑(nl A):Int)<(↑(nl B):Int))) (ag.leaf au.ret ([mag A,mag B,tuple [],int .i64 (-1:Int)],[])) (ag.leaf au.ret ([mag A,mag B,tuple [],int .i64 (1:Int)],[]))) (ag.leaf au.normal ([mag A,mag B,int .i64 (i64.wrap ((↑(nl A):Int)-1)),int .i64 (0:Int)],[]))):=ah
theorem Y0 {A B k:Nat}:aL T [] [20,31,40] 30 [0,1,5,4] [part (aK f84) [1,1,0,1,0,0]] ⟨aH [0,1,5,4] [.mag A,.mag B,.int .i64 ((k:Int)-1),.int .i64 0],[],0⟩=
  some (ag.fork (decide ((↑k:Int)-1>=(0:Int))) (ag.aj [(0:Int)<=(↑k:Int)-1/\((↑k:Int)-1).toNat<nl A,(0:Int)<=(↑k:Int)-1/\((↑k:Int)-1).toNat<nl B] (ag.fork (decide ((↑(aG A ((↑k:Int)-1).toNat):Int)<(↑(aG B ((↑k:Int)-1).toNat):Int))) (ag.leaf au.ret ([mag A,mag B,int .i64 ((↑k:Int)-1),int .i64 (-1:Int)],[])) (ag.aj [(0:Int)<=(↑k:Int)-1/\((↑k:Int)-1).toNat<nl A,(0:Int)<=(↑k:Int)-1/\((↑k:Int)-1).toNat<nl B] (ag.fork (decide ((↑(aG A ((↑k:Int)-1).toNat):Int)>(↑(aG B ((↑k:Int)-1).toNat):Int))) (ag.leaf au.ret ([mag A,mag B,int .i64 ((↑k:Int)-1),int .i64 (1:Int)],[])) (ag.leaf au.normal ([mag A,mag B,int .i64 (i64.wrap ((↑k:Int)-1-(1:Int))),int .i64 (0:Int)],[])))))) (ag.leaf (au.exit 0) ([mag A,mag B,int .i64 ((↑k:Int)-1),int .i64 (0:Int)],[]))):=ah
theorem adG {A B k:Nat}:dc T [] [] 30 f84 (behind (aK f84) [1,1,0,1]) ⟨aH [0,1,5,4] [.mag A,.mag B,.int .i64 ((k:Int)-1),.int .i64 0],[],0⟩=
  some (ag.leaf au.ret [int .i64 (0:Int)]):=ah
theorem ah3 {n:Nat} {z:Nat->Nat}:aL T [] [7] 30 [3,4,2] (before (aK f187) [1,1,1,0,1]) ⟨aZ 0 [.aq 1 n (aF z)],[],0⟩=
  some (ag.fork ((↑n:Int)==0) (ag.leaf au.ret ([tuple [],tuple [],int .i64 (0:Int)],[])) (ag.aj [(0:Int)<=i64.wrap ((↑n:Int)-1)/\(i64.wrap ((↑n:Int)-1)).toNat<n] (ag.leaf au.normal ([int .i64 (i64.wrap ((32:Int)*i64.wrap ((↑n:Int)-1))),int .u32 (↑(z (i64.wrap ((↑n:Int)-1)).toNat):Int),int .i64 (0:Int)],[])))):=ah
theorem acv {x y:Nat}:aL T [] [19] 30 [3,4,2] [part (aK f187) [1,1,1,0,1,0,0]] ⟨aH [3,4,2] [.int .i64 x,.int .u32 y,.int .i64 0],[],0⟩=
  some (ag.fork ((↑y:Int)!=0) (ag.aj [(0:Int)<=1] (ag.leaf au.normal ([int .i64 (i64.wrap ((↑x:Int)+1)),int .u32 ((↑y:Int).fdiv ((2:Int)^min (Int.toNat (1:Int)) u32.bits)),int .i64 (0:Int)],[]))) (ag.leaf (au.exit 0) ([int .i64 (↑x:Int),int .u32 (↑y:Int),int .i64 (0:Int)],[]))):=ah
theorem ahu {x y:Nat}:dc T [] [] 30 f187 (behind (aK f187) [1,1,1,0,1]) ⟨aH [3,4,2] [.int .i64 x,.int .u32 y,.int .i64 0],[],0⟩=
  some (ag.leaf au.ret [int .i64 (↑x:Int)]):=ah
theorem ako {n:Nat} {z:Nat->Nat} (hz:∀i,i<n->z i<2^32) (hn:n<2^40) (K:Nat):aW P 140 K [.aq 1 n (aF z)] [] (aO (.mag (val n z)) []):=by
 refine jj hT adU rfl bh rfl (fun _ c h0=>?_) K []
 refine az.hole [1,1,0] ah (aJ.bU hT cJ hm 30 [0,3] WB ah fun s' hv=>dx ?_)
 refine az.jG (i:=0) (y:=part (aK f140) [1,1,0,0,0]) ah [0,3] 0 (h0 _) (fun k:Nat=>[.aq 1 n (aF z),.int .i64 k]) (fun _=>[]) (fun _=>rfl) (fun _=>trivial)
  (fun k=>k<=n/\∀i,k<=i->i<n->z i=0) id n hv ⟨aX,fun i h1 h2=>aa⟩ ?_
 rintro j ⟨hj,hzj⟩
 refine az.bU hT cJ hm 30 [0,3] ae0 ah ?_
 have fin:(j=0\/z (j-1)≠0)->∀s',bJ [0,3] s'=some ([.aq 1 n (aF z),.int .i64 j],[])->aJ P c f140.ntmps (behind (aK f140) [1,1,0]) s' (gX c (Fin T f140 (.mag (val n z)))):=by
  intro hj0 s' hv
  refine aJ.mw hT cJ hm 30 hv (h0 0) rfl trivial UG ah ah ?_
  simp only[ag.all,aC,bS,Int.toNat_zero,Nat.zero_add,Nat.sub_zero,Nat.add_zero]
  have e:val n z=val j z:=pX hj hzj
  refine⟨⟨aa,aa,aa⟩,l9 (by rw[e,CB (fun i hi=>hz i aa) hj0]) fun i hi=>?_⟩
  rw[if_neg aa,e,ri (fun j hj=>hz j aa) hi]
  rfl
 have hw:0<j->i64.wrap ((j:Int)-1)=((j-1:Nat):Int):=fun h=>by rw[wrap_i64 aa aa];omega
 refine⟨fun hb=>?_,fun hb=>?_⟩
 ·have h1:0<j:=by simpa using hb
  rw[hw h1]
  have hj1:j-1<n:=aa
  refine⟨⟨hb,aa,by rw[bS];exact hj1⟩,fun hc s' hv=>?_,fun hc s' hv=>?_⟩
  ·refine⟨j-1,hv,⟨aa,fun i h1 h2=>?_⟩,by simp;omega⟩
   by_cases hi:i=j-1
   ·subst hi;simpa using hc
   ·exact hzj i aa h2
  ·exact gR (fin (.inr (by simpa using hc)) s' hv)
 ·have h1:j=0:=by simpa using hb
  refine⟨hb,fun hc=>by simp at hc,fun hc s' hv=>gR (fin (.inl h1) s' hv)⟩
theorem A5:bp P wI 140:=
 cZ (xR fun _ _ K hz need=>ako hz need K)
theorem gB:bY P gn:=aM A5 cJ
theorem Um {x:Nat} (hx:x<2^64) (K:Nat):aW P 138 K [.int .u64 x] [] (aO (.mag x) []):=by
 refine cB hT gB hm aiY rfl bh rfl 30 ac7 (fun _=>?_) K []
 simp only[ag.all,aC,nY]
 refine⟨⟨aa,aa,fun i hi=>?_,aa⟩,fG (congrArg AV.mag ?_)⟩
 ·match i,hi with
  |0,_=>exact⟨x%2^32,aa,by simp[nth,lE]⟩
  |1,_=>exact⟨x/4294967296,aa,by simp[nth,nM];omega⟩
 ·rw[val_two]
  simp[nth,numOf,nM]
  omega
def y9:Spec:=cD fun l=>match l with
 |[.int .u64 x]=>some (aO (.mag x.toNat) [0<=x/\x<2^64])
 |_=>none
theorem D8:bp P y9 138:=by
 refine cZ fun K args r hk hs _=>?_
 split at hs
 ·simp only[aB]at hs
  subst hs
  intro need
  obtain⟨h1,h2⟩:=need
  rename_i x
  obtain⟨y,rfl⟩:=Int.eq_ofNat_of_zero_le h1
  exact Um (x:=y) aa K trivial
 ·simp at hs
def iT (A:Nat):Bool:=decide (A<18446744073709551616)
theorem agr {A:Nat} (K:Nat):aW P 186 K [.mag A] [] (aO (.tuple [.int .u64 (if iT A then A else 0:Nat),.bool (iT A)]) []):=by
 refine cB hT gB hm aiV rfl bh rfl 30 Xo (fun _=>?_) K []
 simp only[ag.all,aC,beq_iff_eq,beq_eq_false_iff_ne,ne_eq,Int.toNat_zero,show Int.toNat 1=1 from rfl]
 have hv:=iW (N:=A)
 have l0:=fB (N:=A) (i:=0)
 have l1:=fB (N:=A) (i:=1)
 have yes:∀{x:Int},A<2^64->x=(A:Nat)->iK [.int .u64 x,.bool true] (.tuple [.int .u64 (if iT A then A else 0:Nat),.bool (iT A)]):=fun h hx=>by
  have:iT A=true:=by unfold iT;simpa using h
  rw[this,if_pos rfl]
  exact⟨cE hx,.refl _,trivial⟩
 refine⟨fun hb=>yes ?_ ?_,fun hb=>⟨fun h1=>⟨aa,yes ?_ ?_⟩,fun h1=>⟨fun h2=>⟨⟨aa,aa,aa⟩,yes ?_ ?_⟩,fun h2=>?_⟩⟩⟩
 ·have:A=0:=lz.1 aa
  omega
 ·have:A=0:=lz.1 aa
  rw[this];rfl
 ·exact q9 aa
 ·rw[show nl A=1 by omega,val,val]at hv
  rw[cR aa aa]
  simp at hv;omega
 ·exact q9 aa
 ·rw[show nl A=2 by omega,val,val,val]at hv
  have e1:u64.wrap (aG A 0:Int)=((aG A 0:Nat):Int):=cR aa aa
  have e2:u64.wrap (aG A 1:Int)=((aG A 1:Nat):Int):=cR aa aa
  have e3:u64.wrap ((aG A 1:Int)*2^min (Int.toNat 32) u64.bits)=((aG A 1*4294967296:Nat):Int):=by
   rw[yS,cR aa aa];omega
  rw[e1,e2,e3,wY aa aa]
  congr 1
  rw[Nat.or_comm,show 4294967296=2^32 from rfl,uI l0]
  simp at hv;omega
 ·have:iT A=false:=by
   unfold iT
   simp only[bR]
   intro h
   have:nl A<=2:=eP.2 h
   omega
  rw[this]
  exact⟨.refl _,.refl _,trivial⟩
def Gi:Spec:=cD fun l=>match l with
 |[a]=>match kB a with
  |some A=>some (aO (.tuple [.int .u64 (if iT A then A else 0:Nat),.bool (iT A)]) [])
  |none=>none
 |_=>none
theorem LP:bp P Gi 186:=by
 refine cZ fun K args r hk hs _=>?_
 split at hs
 ·split at hs
  ·rename_i A hA
   simp only[aB]at hs
   subst hs
   exact iz (agr K) hk ⟨nO hA,trivial⟩ []
  ·simp at hs
 ·simp at hs
theorem Vi {A B:Nat} (hA:nl A<2^40) (hB:nl B<2^40) (K:Nat):aW P 84 K [.mag A,.mag B] [] (aO (.int .i64 (eu A B)) []):=by
 refine jj hT agt rfl bh rfl (fun _ c h0=>?_) K []
 refine az.hole [1,1,0,1] ah (aJ.bU hT cJ hm 30 [0,1,5,4] Vf ah ?_)
 simp only[ag.all,aC,bI,bR,bne_iff_ne,ne_eq,Int.natCast_inj,bne_eq_false_iff_eq]
 refine⟨fun hb=>⟨fun hb2 s' hv=>gQ (.inl ?_),fun hb2 s' hv=>gQ (.inl ?_)⟩,fun hb s' hv=>dx ?_⟩
 ·have h1:A<B:=Ca aa
  exact jn (us:=[.int .i64 (-1)]) (.inr rfl) hv ah (cE (by simp[eu,h1]))
 ·have h1:B<A:=Ca aa
  exact jn (us:=[.int .i64 1]) (.inr rfl) hv ah (cE (by simp[eu,h1];omega))
 refine az.jG (i:=0) (y:=part (aK f84) [1,1,0,1,0,0]) ah [0,1,5,4] 0 (h0 _) (fun k:Nat=>[.mag A,.mag B,.int .i64 ((k:Int)-1),.int .i64 0]) (fun _=>[]) (fun _=>rfl) (fun _=>trivial)
  (fun k=>k<=nl A/\∀j,k<=j->j<nl A->aG A j=aG B j) id (nl A) (fC hv (by rw[wrap_i64 aa aa]) rfl) ⟨by simp,fun j h1 h2=>aa⟩ ?_
 rintro k ⟨hk,hlim⟩
 refine az.bU hT cJ hm 30 [0,1,5,4] Y0 ah ?_
 simp only[ag.all,aC,bI,bR]
 refine⟨fun hb2=>?_,fun hb2 s' hv=>gR ?_⟩
 ·obtain⟨j,rfl⟩:∃j,k=j+1:=⟨k-1,aa⟩
  have e:(((j+1:Nat):Int)-1).toNat=j:=aa
  rw[e]
  refine⟨⟨aa,aa⟩,fun hlt s' hv=>Mg (gQ (.inl ?_)),fun hlt=>⟨⟨aa,aa⟩,fun hgt s' hv=>Mg (gQ (.inl ?_)),fun hgt s' hv=>?_⟩⟩
  ·have h1:A<B:=DM hb (k:=j) aa (fun i h1 h2=>hlim i aa h2) aa
   exact jn (us:=[.int .i64 (-1)]) (.inr rfl) hv ah (cE (by simp[eu,h1]))
  ·have h1:B<A:=DM hb.symm (k:=j) aa (fun i h1 h2=>(hlim i aa aa).symm) aa
   exact jn (us:=[.int .i64 1]) (.inr rfl) hv ah (cE (by simp[eu,h1];omega))
  ·refine⟨j,fC hv (by rw[wrap_i64 aa aa];congr 4;omega) rfl,⟨aa,fun i h1 h2=>?_⟩,by simp⟩
   by_cases hi:i=j
   ·subst hi;omega
   ·exact hlim i aa h2
 ·have hk0:k=0:=aa
  have hAB:A=B:=I5 hb fun i hi=>hlim i aa hi
  exact dx (aJ.mw hT cJ hm 30 hv (h0 0) rfl trivial adG ah ah (cE (by simp[eu,hAB])))
def pE (g:Nat->Nat->AV) (l:Nat->Nat->List Prop):Spec:=cD fun a=>match a with
 |[x,y]=>match kB x,kB y with
  |some A,some B=>some (aO (g A B) (l A B))
  |_,_=>none
 |_=>none
theorem sR {f:FuncId} {g:Nat->Nat->AV} {l:Nat->Nat->List Prop} (h:∀{A B:Nat},aC (l A B)->∀K,aW P f K [.mag A,.mag B] [] (aO (g A B) [])):bp P (pE g l) f:=by
 refine cZ fun K args r hk hs _=>?_
 split at hs
 ·split at hs
  ·rename_i A B hA hB
   simp only[aB]at hs
   subst hs
   exact fun need=>iz (h need K) hk ⟨nO hA,nO hB,trivial⟩ [] trivial
  ·simp at hs
 ·simp at hs
abbrev GB (A B:Nat):List Prop:=[nl A<2^40,nl B<2^40]
def Aj:Spec:=pE (fun A B=>.int .i64 (eu A B)) GB
theorem C3:bp P Aj 84:=sR fun h=>Vi h.1 h.2
theorem aaF {n:Nat} {z:Nat->Nat} (hz:∀i,i<n->z i<2^32) (hn:n<2^40) (hnl:nl (val n z)=n) (K:Nat):aW P 187 K [.aq 1 n (aF z)] [] (aO (.int .i64 (ck (val n z):Nat)) []):=by
 refine jj hT agb rfl bh rfl (fun _ c h0=>?_) K []
 refine az.hole [1,1,1,0,1] ah (aJ.bU hT cJ hm 30 [3,4,2] ah3 ah ?_)
 simp only[ag.all,aC,beq_iff_eq,beq_eq_false_iff_ne,ne_eq]
 refine⟨fun hb s' hv=>gQ (.inl ?_),fun hb=>?_⟩
 ·have h1:n=0:=aa
  have h2:val n z=0:=by rw[h1];rfl
  exact jn (us:=[.int .i64 0]) (.inr rfl) hv ah (cE (by rw[h2];rfl))
 have w1:i64.wrap ((n:Int)-1)=((n-1:Nat):Int):=gl aa aa
 have w2:i64.wrap (32*((n-1:Nat):Int))=((32*(n-1):Nat):Int):=gl aa aa
 rw[w1,w2]
 simp only[bS]
 refine⟨aa,fun s' hv=>dx ?_⟩
 have hzt:=hz (n-1) aa
 have htot:ck (val n z)=32*(n-1)+ck (z (n-1)):=by
  have h0:val n z≠0:=jc.1 aa
  rw[NW h0,hnl,ri hz aa]
 refine az.jG (i:=0) (y:=part (aK f187) [1,1,1,0,1,0,0]) ah [3,4,2] 0 (h0 _) (fun p:Nat×Nat=>[.int .i64 (p.1:Nat),.int .u32 (p.2:Nat),.int .i64 0]) (fun _=>[]) (fun _=>rfl) (fun _=>trivial)
  (fun p=>p.1+ck p.2=ck (val n z)/\p.2<2^32) (fun p=>p.2) (32*(n-1),z (n-1)) hv ⟨htot.symm,hzt⟩ ?_
 rintro⟨x,y⟩ ⟨hxy,hy⟩
 simp only at hxy hy
 have hb32:ck (z (n-1))<=32:=kJ.2 hzt
 refine az.bU hT cJ hm 30 [3,4,2] acv ah ?_
 rw[yB (by decide) (by decide)]
 simp only[ag.all,aC,bne_iff_ne,ne_eq,bne_eq_false_iff_eq,show Int.toNat 1=1 from rfl]
 refine⟨fun hc=>⟨aa,fun s' hv=>?_⟩,fun hc s' hv=>gR (dx ?_)⟩
 ·have hy0:0<y:=aa
  have e:ck y=1+ck (y/2):=by
   by_cases h1:y=1
   ·rw[h1];decide
   ·exact wP (k:=1) aa
  have hd:y/2<y:=aa
  exact⟨(x+1,y/2),fC hv (by rw[gl (a:=(x:Int)+1) (n:=x+1) aa aa]) rfl,⟨by simp only;omega,by simp only;omega⟩,by simp only;omega⟩
 ·have hy0:y=0:=aa
  refine aJ.mw hT cJ hm 30 hv (h0 0) rfl trivial ahu ah ah (cE ?_)
  rw[hy0]at hxy
  simp[ck]at hxy
  rw[hxy];simp[ck]
def Ny:Spec:=cD (ni fun N n=>aO (.int .i64 (ck N:Nat)) [n<2^40,nl N=n])
theorem acA:bp P Ny 187:=
 cZ (xR fun _ _ K hz need=>aaF hz need.1 need.2 K)
theorem adi:bu 146 f146:=bC func146
abbrev fV:List Nat:=[0,1,5,6,7]
abbrev Ad (A B c i:Nat):List AV:=[.mag A,.mag B,.own 7 1 0 i,.int .u64 c,.int .i64 i]
abbrev qx (i:Nat) (o:Nat->Nat):aI:=[(7,⟨true,true,1,i,aF o⟩)]
abbrev kz:Code:=part (aK f146) [1,1,1,0,1,0,0]
theorem Xq {A B:Nat}:aL T gn [] 60 fV (before (aK f146) [1,1,1,0,1]) ⟨aZ 0 [.mag A,.mag B],[],0⟩=
  some (ag.leaf au.normal ([mag A,mag B,nil,int .u64 (0:Int),int .i64 (0:Int)],[])):=ah
theorem X1 {A B c:Nat}:aL T gn [12,18,21] 60 fV [part kz [0]] ⟨aH fV [.mag A,.mag B,.nil,.int .u64 c,.int .i64 0],[],8⟩=
  let d:=bif false then true else decide ((0:Int)<(↑(nl B):Int));let a:=decide ((0:Int)<(↑(nl A):Int));let b:List AV×aI:=([mag A,mag B,nil,int .u64 (↑c:Int),int .i64 (0:Int)],[]);let f:ag (List AV×aI):=ag.fork true (ag.leaf au.normal b) (ag.leaf (au.exit 0) b);let e:ag (List AV×aI):=ag.fork (bif false then true else(↑c:Int)!=0) (ag.leaf au.normal b) (ag.leaf (au.exit 0) b);some (ag.fork a (ag.fork true (ag.aj [a=true,true=true] f) (ag.aj [a=true,true=false] e)) (ag.fork d (ag.aj [a=false,d=true] f) (ag.aj [a=false,d=false] e))):=ah
theorem Ug {A B c i:Nat} {o:Nat->Nat}:aL T gn [12,18,21] 60 fV [part kz [0]] ⟨aH fV (Ad A B c i),qx i o,8⟩=
  let f:=(↑i:Int);let e:=bif false then true else decide (f<(↑(nl B):Int));let b:=decide (f<(↑(nl A):Int));let d:List AV×aI:=([mag A,mag B,own 7 1 0 i,int .u64 (↑c:Int),int .i64 f],[(7,aA.mk true true 1 i fun a=>int .u32 (↑(o a):Int))]);let h:ag (List AV×aI):=ag.fork true (ag.leaf au.normal d) (ag.leaf (au.exit 0) d);let g:ag (List AV×aI):=ag.fork (bif false then true else(↑c:Int)!=0) (ag.leaf au.normal d) (ag.leaf (au.exit 0) d);some (ag.fork b (ag.fork true (ag.aj [b=true,true=true] h) (ag.aj [b=true,true=false] g)) (ag.fork e (ag.aj [b=false,e=true] h) (ag.aj [b=false,e=false] g))):=ah
theorem Uw {A B c:Nat}:aL T gn [27,38] 60 fV (before (part kz [1,0,0]) [1,1]) ⟨aH fV [.mag A,.mag B,.nil,.int .u64 c,.int .i64 0],[],8⟩=
  let d:=(0:Int)<=0;let f:=(↑(nl B):Int);let b:=[int .i64 (0:Int)];let a:=Int.toNat (0:Int);let g:=u64.wrap (↑(aG B a):Int);let e:=u64.wrap ((↑c:Int)+u64.wrap (↑(aG A a):Int));some (ag.fork (decide ((0:Int)<(↑(nl A):Int))) (ag.aj [d/\a<nl A] (ag.fork (decide ((0:Int)<f)) (ag.aj [d/\a<nl B] (ag.leaf au.normal (mag A::mag B::nil::int .u64 (u64.wrap (e+g))::b,[]))) (ag.leaf au.normal (mag A::mag B::nil::int .u64 e::b,[])))) (ag.fork (decide ((0:Int)<f)) (ag.aj [d/\a<nl B] (ag.leaf au.normal (mag A::mag B::nil::int .u64 (u64.wrap ((↑c:Int)+g))::b,[]))) (ag.leaf au.normal (mag A::mag B::nil::int .u64 (↑c:Int)::b,[])))):=ah
theorem afE {A B c i:Nat} {o:Nat->Nat}:aL T gn [27,38] 60 fV (before (part kz [1,0,0]) [1,1]) ⟨aH fV (Ad A B c i),qx i o,8⟩=
  let j:=(↑(nl B):Int);let e:=own 7 1 0 i;let b:=(↑i:Int);let d:Nat×aA:=(7,aA.mk true true 1 i fun a=>int .u32 (↑(o a):Int));let k:=(0:Int)<=b/\b.toNat<nl B;let h:=u64.wrap (↑(aG B b.toNat):Int);let f:=[int .i64 b];let g:=u64.wrap ((↑c:Int)+u64.wrap (↑(aG A b.toNat):Int));some (ag.fork (decide (b<(↑(nl A):Int))) (ag.aj [(0:Int)<=b/\b.toNat<nl A] (ag.fork (decide (b<j)) (ag.aj [k] (ag.leaf au.normal (mag A::mag B::e::int .u64 (u64.wrap (g+h))::f,[d]))) (ag.leaf au.normal (mag A::mag B::e::int .u64 g::f,[d])))) (ag.fork (decide (b<j)) (ag.aj [k] (ag.leaf au.normal (mag A::mag B::e::int .u64 (u64.wrap ((↑c:Int)+h))::f,[d]))) (ag.leaf au.normal (mag A::mag B::e::int .u64 (↑c:Int)::f,[d])))):=ah
theorem akD {A B c:Nat}:aL T gn [] 60 fV [part (part kz [1,0,0]) [1,1]] ⟨aH fV [.mag A,.mag B,.nil,.int .u64 c,.int .i64 0],[],8⟩=
  some (ag.aj [(1:Nat)*1<=2^24,(0:Nat)<1/\1*((4:Nat)+1)*2<=2^47] (ag.aj [(0:Int)<=32] (ag.leaf au.normal ([mag A,mag B,own 16392 1 0 1,int .u64 ((↑c:Int).fdiv ((2:Int)^min (Int.toNat (32:Int)) u64.bits)),int .i64 (0:Int)],[(16392,aA.mk true true 1 1 fun i=>nth [int .u32 (u32.wrap (↑c:Int))] (int .u32 (0:Int)) (i+0))])))):=ah
theorem Y1 {A B c i:Nat} {o:Nat->Nat}:aL T gn [] 60 fV [part (part kz [1,0,0]) [1,1]] ⟨aH fV (Ad A B c i),qx i o,8⟩=
  some (ag.aj [(1:Nat)*1<=2^24,(i+1)*((4:Nat)+1)*2<=2^47] (ag.aj [(0:Int)<=32] (ag.leaf au.normal ([mag A,mag B,own 16392 1 0 (i+1),int .u64 ((↑c:Int).fdiv ((2:Int)^min (Int.toNat (32:Int)) u64.bits)),int .i64 (↑i:Int)],[(16392,aA.mk true true 1 (i+1) fun i_1=>if i_1<i then aF o i_1 else nth [int .u32 (u32.wrap (↑c:Int))] (int .u32 (0:Int)) (i_1-i+0))])))):=ah
theorem akv {A B c i j:Nat} {o:Nat->Nat}:aL T gn [] 60 fV [part kz [1,1]] ⟨aH fV [.mag A,.mag B,.own 7 1 0 i,.int .u64 c,.int .i64 j],qx i o,8⟩=
  some (ag.leaf au.normal ([mag A,mag B,own 7 1 0 i,int .u64 (↑c:Int),int .i64 (i64.wrap ((↑j:Int)+1))],[(7,aA.mk true true 1 i fun a=>int .u32 (↑(o a):Int))])):=ah
theorem ad1 {A B c:Nat}:dc T gn [] 60 f146 (behind (aK f146) [1,1,1,0,1]) ⟨aH fV [.mag A,.mag B,.nil,.int .u64 c,.int .i64 0],[],8⟩=
  some (ag.leaf au.ret [nil]):=ah
theorem agz {A B c i:Nat} {o:Nat->Nat}:dc T gn [] 60 f146 (behind (aK f146) [1,1,1,0,1]) ⟨aH fV (Ad A B c i),qx i o,8⟩=
  some (ag.leaf au.ret [aq 1 i fun i=>int .u32 (↑(o (i+0)):Int)]):=ah
theorem kO {A i:Nat} (h:nl A<=i):aG A i=0:=by
 unfold aG
 rw[Nat.div_eq_of_lt (eP.1 h)]
def oC (A B c:Nat):Nat->List AV
 |0=>[.mag A,.mag B,.nil,.int .u64 c,.int .i64 0]
 |i+1=>Ad A B c (i+1)
def oD (o:Nat->Nat):Nat->aI
 |0=>[]
 |i+1=>qx (i+1) o
theorem r6 {A B c i:Nat}:mK 8 (oC A B c i)=true:=by cases i<;>rfl
theorem rz {o:Nat->Nat} {i:Nat}:jW 8 (oD o i):=by
 cases i
 ·trivial
 ·exact⟨⟨aa,fun _ _=>rfl⟩,trivial⟩
section fadd
variable {c0:Ctx} (h0:c0.k0=bQ) {A B:Nat} {Q:au->aP->Prop}
include h0 in
theorem X2 {c i:Nat} {o:Nat->Nat} {s':aP} (hc:c<=1) (hv:bJ fV s'=some (oC A B c i,oD o i))
  (fin:∀s',bJ fV s'=some (oC A B (c+aG A i+aG B i) i,oD o i)->Q .normal s'):aJ P c0 f146.ntmps (before (part kz [1,0,0]) [1,1]) s' Q:=by
 have la:=fB (N:=A) (i:=i)
 have lb:=fB (N:=B) (i:=i)
 have wa:u64.wrap (aG A i:Int)=((aG A i:Nat):Int):=cR aa aa
 have wb:u64.wrap (aG B i:Int)=((aG B i:Nat):Int):=cR aa aa
 have w1:u64.wrap ((c:Int)+((aG A i:Nat):Int))=((c+aG A i:Nat):Int):=by rw[cR aa aa];omega
 have w2:u64.wrap ((c:Int)+((aG B i:Nat):Int))=((c+aG B i:Nat):Int):=by rw[cR aa aa];omega
 have w3:u64.wrap (((c+aG A i:Nat):Int)+((aG B i:Nat):Int))=((c+aG A i+aG B i:Nat):Int):=by rw[cR aa aa];omega
 cases i with
 |zero=>
  refine aJ.gL hT gB hm 60 hv (lO h0) r6 rz fV Uw ah ah ?_
  simp only[ag.all,aC,bI,bR,Int.toNat_zero]
  rw[wa,wb,w1,w2,w3]
  refine⟨fun h1=>⟨aa,fun h2=>⟨aa,fun s' hv=>fin s' hv⟩,fun h2 s' hv=>fin s' (fC hv ?_ rfl)⟩,fun h1=>⟨fun h2=>⟨aa,fun s' hv=>fin s' (fC hv ?_ rfl)⟩,fun h2 s' hv=>fin s' (fC hv ?_ rfl)⟩⟩
  ·rw[kO (A:=B) aa];rfl
  ·rw[kO (A:=A) aa];rfl
  ·rw[kO (A:=A) aa,kO (A:=B) aa];rfl
 |succ i=>
  refine aJ.gL hT gB hm 60 hv (lO h0) r6 rz fV afE ah ah ?_
  simp only[ag.all,aC,bI,bR,bS]
  rw[wa,wb,w1,w2,w3]
  refine⟨fun h1=>⟨aa,fun h2=>⟨aa,fun s' hv=>fin s' hv⟩,fun h2 s' hv=>fin s' (fC hv ?_ rfl)⟩,fun h1=>⟨fun h2=>⟨aa,fun s' hv=>fin s' (fC hv ?_ rfl)⟩,fun h2 s' hv=>fin s' (fC hv ?_ rfl)⟩⟩
  ·rw[kO (A:=B) aa];rfl
  ·rw[kO (A:=A) aa];rfl
  ·rw[kO (A:=A) aa,kO (A:=B) aa];rfl
include h0 in
theorem WO {c i:Nat} {o:Nat->Nat} {s':aP} (hi:i<2^41) (hv:bJ fV s'=some (oC A B c i,oD o i))
  (fin:∀s',(∃ρ,Le c0 ρ s' ⟨aH fV [.mag A,.mag B,.own 7 1 0 (i+1),.int .u64 (c/4294967296:Nat),.int .i64 i],qx (i+1) (cX o i (c%4294967296)),8⟩)->Q .normal s'):az P c0 f146.ntmps (part (part kz [1,0,0]) [1,1]) s' Q:=by
 have hd:(c:Int).fdiv (2^min (Int.toNat 32) u64.bits)=((c/4294967296:Nat):Int):=by rw[nY];omega
 cases i with
 |zero=>
  refine az.gL hT gB hm 60 hv (lO h0) r6 rz fV akD ah ?_
  rw[hd]
  simp only[ag.all,aC]
  refine⟨⟨aa,aa,aa⟩,aa,fun s' hv=>fin s' ?_⟩
  refine fe (vs:=[.mag A,.mag B,.own 7 1 0 1,.int .u64 (c/4294967296:Nat),.int .i64 0]) (ps:=qx 1 (cX o 0 (c%4294967296))) (nx:=8) [(7,16392)] hv h0 rfl ⟨aY,aY,⟨rfl,eR rfl rfl rfl⟩,aY,aY,trivial⟩
   ⟨⟨_,_,rfl,rfl,gZ rfl fun j hj=>?_⟩,trivial⟩
  have:j=0:=aa
  subst this
  simp[nth,aF,me,lE]
 |succ i=>
  refine az.gL hT gB hm 60 hv (lO h0) r6 rz fV Y1 ah ?_
  rw[hd]
  simp only[ag.all,aC]
  refine⟨⟨aa,aa⟩,aa,fun s' hv=>fin s' ?_⟩
  refine fe (vs:=[.mag A,.mag B,.own 7 1 0 (i+1+1),.int .u64 (c/4294967296:Nat),.int .i64 ((i+1:Nat):Int)]) (ps:=qx (i+1+1) (cX o (i+1) (c%4294967296))) (nx:=8) [(7,16392)] hv h0 rfl ⟨aY,aY,⟨rfl,eR rfl rfl rfl⟩,aY,aY,trivial⟩
   ⟨⟨_,_,rfl,rfl,gZ rfl fun j hj=>?_⟩,trivial⟩
  by_cases h:j<i+1
  ·rw[if_pos h];unfold aF;rw[iw aa]
  ·have:j=i+1:=aa
   subst this
   simp[nth,aF,me,lE]
end fadd
theorem VL {c i:Nat} {o:Nat->Nat} {c0:Ctx} {Q:au->aP->Prop} {A B:Nat} (yes:∀s',(i<nl A\/i<nl B\/c≠0)->bJ fV s'=some (oC A B c i,oD o i)->Q .normal s')
  (no:∀s',nl A<=i->nl B<=i->c=0->bJ fV s'=some (oC A B c i,oD o i)->Q (.exit 0) s'):az P c0 f146.ntmps (part kz [0]) ⟨aH fV (oC A B c i),oD o i,8⟩ Q:=by
 cases i with
 |zero=>
  refine az.bU hT gB hm 60 fV X1 ah ?_
  refine⟨fun h=>⟨fun _=>⟨⟨h,rfl⟩,fun _ s' hv=>yes s' (.inl (by have:=of_decide_eq_true h;omega)) hv,fun hf=>by simp at hf⟩,fun hf=>by simp at hf⟩,
   fun h=>⟨fun h2=>⟨⟨h,h2⟩,fun _ s' hv=>yes s' (.inr (.inl (by have:=of_decide_eq_true (jT h2);omega))) hv,fun hf=>by simp at hf⟩,
    fun h2=>⟨⟨h,h2⟩,fun h3 s' hv=>yes s' (.inr (.inr ?_)) hv,fun h3 s' hv=>no s' ?_ ?_ ?_ hv⟩⟩⟩
  ·have:=jT h3
   simp at this;exact this
  ·have:=of_decide_eq_false h;omega
  ·have:=of_decide_eq_false (jT h2);omega
  ·have:=jT h3
   simp at this;exact this
 |succ i=>
  refine az.bU hT gB hm 60 fV Ug ah ?_
  refine⟨fun h=>⟨fun _=>⟨⟨h,rfl⟩,fun _ s' hv=>yes s' (.inl (by have:=of_decide_eq_true h;omega)) hv,fun hf=>by simp at hf⟩,fun hf=>by simp at hf⟩,
   fun h=>⟨fun h2=>⟨⟨h,h2⟩,fun _ s' hv=>yes s' (.inr (.inl (by have:=of_decide_eq_true (jT h2);omega))) hv,fun hf=>by simp at hf⟩,
    fun h2=>⟨⟨h,h2⟩,fun h3 s' hv=>yes s' (.inr (.inr ?_)) hv,fun h3 s' hv=>no s' ?_ ?_ ?_ hv⟩⟩⟩
  ·have:=jT h3
   simp at this;exact this
  ·have:=of_decide_eq_false h;omega
  ·have:=of_decide_eq_false (jT h2);omega
  ·have:=jT h3
   simp at this;exact this
theorem aiT {A B:Nat} (hA:nl A<2^40) (hB:nl B<2^40) (K:Nat):aW P 146 K [.mag A,.mag B] [] (aO (.mag (A+B)) []):=by
 refine lP hT adi rfl bh rfl (fun _ c0 h0=>.down ?_) K []
 refine az.hole [1,1,1,0,1] ah (aJ.bU hT gB hm 60 fV Xq ah fun s' hv=>dx ?_)
 refine az.jK (i:=0) (y:=kz) ah (fun p:Nat×Nat×(Nat->Nat)=>⟨aH fV (oC A B p.2.1 p.1),oD p.2.2 p.1,8⟩)
  (fun p=>(p.1<=max (nl A) (nl B)\/(p.1=max (nl A) (nl B)+1/\p.2.1=0/\2^(32*max (nl A) (nl B))<=A+B))/\p.2.1<=1/\(∀j,j<p.1->p.2.2 j<2^32)/\val p.1 p.2.2+p.2.1*2^(32*p.1)=val p.1 (aG A)+val p.1 (aG B))
  (fun p=>max (nl A) (nl B)+1-p.1) (0,0,fun _=>0) (rN hv (lO h0) r6 rz) ⟨by simp,by simp,fun j hj=>by simp only at hj;omega,by simp[val]⟩ ?_
 rintro⟨i,c,o⟩ ⟨hi,hc,ho,hval⟩
 simp only at hi hc ho hval
 have hAv:max (nl A) (nl B)<=i->val i (aG A)+val i (aG B)=A+B:=fun h=>by
  rw[rH (eP.1 aa),rH (eP.1 aa)]
 -- a round
 have body:∀{s':aP},(i<nl A\/i<nl B\/c≠0)->bJ fV s'=some (oC A B c i,oD o i)->∀{QF:au->aP->Prop},
   az P c0 f146.ntmps (part kz [1]) s' (fW (fun s'=>∃k:Nat×Nat×(Nat->Nat),(∃ρ,Le c0 ρ s' ⟨aH fV (oC A B k.2.1 k.1),oD k.2.2 k.1,8⟩)/\
    ((k.1<=max (nl A) (nl B)\/(k.1=max (nl A) (nl B)+1/\k.2.1=0/\2^(32*max (nl A) (nl B))<=A+B))/\k.2.1<=1/\(∀j,j<k.1->k.2.2 j<2^32)/\val k.1 k.2.2+k.2.1*2^(32*k.1)=val k.1 (aG A)+val k.1 (aG B))/\
    max (nl A) (nl B)+1-k.1<max (nl A) (nl B)+1-i) QF):=by
  intro s' hcont hv QF
  have hi':i<=max (nl A) (nl B):=aa
  have la:=fB (N:=A) (i:=i)
  have lb:=fB (N:=B) (i:=i)
  refine az.hole [0] ah ?_
  show az P c0 f146.ntmps (part kz [1,0]) s' _
  refine az.rT (i:=1) (y:=part kz [1,0,0]) ah ?_
  refine az.hole [1,1] ah (X2 h0 hc hv fun s' hv=>dx (WO h0 aa hv fun s' hle=>dx ?_))
  show aJ P c0 f146.ntmps [part kz [1,1]] s' _
  refine aJ.weak rfl hle (aJ.bU hT gB hm 60 fV akv ah fun s' hv=>dx ?_)
  have hs:=EW (B:=2^(32*i)) (c:=c) (z:=aG A i) (y:=aG B i) rfl hval
  refine⟨(i+1,(c+aG A i+aG B i)/4294967296,cX o i ((c+aG A i+aG B i)%4294967296)),rN (fC hv ?_ rfl) (lO h0) r6 rz,⟨?_,by simp only;omega,fun j hj=>?_,?_⟩,by simp only;omega⟩
  ·rw[gl (a:=(i:Int)+1) (n:=i+1) aa aa];rfl
  ·simp only
   by_cases h:i<max (nl A) (nl B)
   ·exact .inl aa
   ·have e:i=max (nl A) (nl B):=aa
    have lA:=kO (A:=A) (i:=i) aa
    have lB:=kO (A:=B) (i:=i) aa
    refine .inr ⟨aa,by rw[lA,lB];omega,?_⟩
    rw[hAv aa]at hval
    have hc1:c=1:=aa
    rw[hc1,Nat.one_mul,e]at hval
    omega
  ·simp only at hj ⊢
   unfold cX
   split
   ·omega
   ·exact ho j aa
  ·simp only
   rw[tN,val,val,jH]
   omega
 -- the end
 have fin:∀{s':aP},nl A<=i->nl B<=i->c=0->bJ fV s'=some (oC A B c i,oD o i)->aJ P c0 f146.ntmps (behind (aK f146) [1,1,1,0,1]) s' (gX c0 (Fin T f146 (.mag (A+B)))):=by
  intro s' h1 h2 h3 hv
  have hsum:val i o=A+B:=by rw[hAv aa,h3]at hval;omega
  cases i with
  |zero=>
   have:A+B=0:=by rw[<-hsum];rfl
   refine aJ.mw hT gB hm 60 hv (lO h0) r6 rz ad1 ah ah ?_
   rw[this]
   exact mP
  |succ i=>
   refine aJ.mw hT gB hm 60 hv (lO h0) r6 rz agz ah ah ?_
   refine l9 ?_ fun j hj=>?_
   ·have l1:nl (A+B)<=i+1:=eP.2 (by rw[<-hsum];exact iL ho)
    have l2:¬nl (A+B)<=i:=by
     intro h
     rcases hi with hi|⟨hi,_,hi2⟩
     ·have:=jz (show A<=A+B by omega)
      have:=jz (show B<=A+B by omega)
      omega
     ·rw[eP]at h
      rw[show max (nl A) (nl B)=i by omega]at hi2
      omega
    omega
   ·rw[<-hsum,ri ho hj];rfl
 refine az.hole [0] ah (show az P c0 f146.ntmps (part kz [0]) _ _ from VL (fun s' h hv=>dx ?_) fun s' h1 h2 h3 hv=>ud (gR (dx (fin h1 h2 h3 hv))))
 show aJ P c0 f146.ntmps [part kz [1]] s' _
 exact body h hv
def JR:Spec:=pE (fun A B=>.mag (A+B)) GB
theorem aaT:bp P JR 146:=sR fun h=>aiT h.1 h.2
end Go.Am.B
namespace Go.Am.B
open Go Go.Am.N AV Proofs.Tryz IntKind
theorem ag0:bu 175 f175:=bC func175
theorem afJ:bu 147 f147:=bC func147
theorem U9:bu 85 f85:=bC func85
theorem aeW:bu 156 f156:=bC func156
abbrev qm:List Nat:=[0,1,5,6,7]
abbrev A1 (A B c i K:Nat):List AV:=[.mag A,.mag B,.own K 1 0 (nl A),.int .u64 c,.int .i64 i]
abbrev eZ (K n:Nat) (o:Nat->Nat):aI:=[(K,⟨true,true,1,n,aF o⟩)]
abbrev OI:Code:=part (aK f175) [1,1,1,0,1,0,0]
theorem Wn {A B:Nat}:aL T gn [] 60 qm (before (aK f175) [1,1,1,0,1]) ⟨aZ 0 [.mag A,.mag B],[],0⟩=
  let a:=(↑(nl A):Int);some (ag.aj [(0:Int)<=a/\a<=a/\a<=2^47/\a*(↑(4:Nat):Int)<=2^47] (ag.leaf au.normal ([mag A,mag B,own 12288 1 0 a.toNat,int .u64 (0:Int),int .i64 (0:Int)],[(12288,aA.mk true true 1 a.toNat fun x=>int .u32 (0:Int))]))):=ah
theorem akr {A B c i:Nat} {o:Nat->Nat}:aL T gn [16,23,38] 60 qm [OI] ⟨aH qm (A1 A B c i 12288),eZ 12288 (nl A) o,12289⟩=
  let b:=(↑c:Int);let e:=(↑i:Int);let p:=own 12288 1 0 (nl A);let q:=[int .i64 (i64.wrap (e+1))];let f:=e.toNat;let d:=(0:Int)<=e/\f<nl A;let g:=mag A::mag B::p::int .u64 (0:Int)::q;let r:=mag A::mag B::p::int .u64 (1:Int)::q;let l:=f+0;let n:=u64.wrap (b+u64.wrap (↑(aG B f):Int));let k:=u64.wrap (↑(aG A f):Int);let h:=u64.wrap (k+4294967296);let m:=[d,l<nl A];some (ag.fork (decide (e<(↑(nl A):Int))) (ag.fork (decide (e<(↑(nl B):Int))) (ag.aj [(0:Int)<=e/\f<nl B] (ag.aj [d] (ag.fork (decide (k<n)) (ag.aj m (ag.leaf au.normal (r,[(12288,aA.mk true true 1 (nl A) fun j=>if(j==l)=true then int .u32 (u32.wrap (u64.wrap (h-n)))else aF o j)]))) (ag.aj m (ag.leaf au.normal (g,[(12288,aA.mk true true 1 (nl A) fun j=>if(j==l)=true then int .u32 (u32.wrap (u64.wrap (k-n)))else aF o j)])))))) (ag.aj [d] (ag.fork (decide (k<b)) (ag.aj m (ag.leaf au.normal (r,[(12288,aA.mk true true 1 (nl A) fun j=>if(j==l)=true then int .u32 (u32.wrap (u64.wrap (h-b)))else aF o j)]))) (ag.aj m (ag.leaf au.normal (g,[(12288,aA.mk true true 1 (nl A) fun j=>if(j==l)=true then int .u32 (u32.wrap (u64.wrap (k-b)))else aF o j)])))))) (ag.leaf (au.exit 0) ([mag A,mag B,p,int .u64 b,int .i64 e],[(12288,aA.mk true true 1 (nl A) fun a=>int .u32 (↑(o a):Int))]))):=ah
theorem aeZ {A B c i:Nat} {o:Nat->Nat}:dc T gn [] 60 f175 (behind (aK f175) [1,1,1,0,1]) ⟨aH qm (A1 A B c i 12288),eZ 12288 (nl A) o,12289⟩=
  some (ag.aj [fL (nl A) fun i=>aF o (i+0),nl A<2^40] (ag.leaf au.ret [mag (val (nl A) fun i=>numOf (aF o (i+0)))])):=ah
abbrev mQ:List Nat:=[0,1,5,6]
abbrev AD (A B i K:Nat):List AV:=[.mag A,.mag B,.own K 1 0 (nl A+nl B),.int .i64 i]
abbrev tH:List Nat:=[0,1,5,6,7,8]
abbrev Eg (A B i c j K:Nat):List AV:=[.mag A,.mag B,.own K 1 0 (nl A+nl B),.int .i64 i,.int .u64 c,.int .i64 j]
abbrev qX:Code:=part (aK f85) [1,1,0,1,0,0]
abbrev xL:Code:=part qX [1,0,0]
theorem SU {A B:Nat}:aL T gn [] 60 mQ (before (aK f85) [1,1,0,1]) ⟨aZ 0 [.mag A,.mag B],[],0⟩=
  let a:=i64.wrap ((↑(nl A):Int)+(↑(nl B):Int));some (ag.aj [(0:Int)<=a/\a<=a/\a<=2^47/\a*(↑(4:Nat):Int)<=2^47] (ag.leaf au.normal ([mag A,mag B,own 24576 1 0 a.toNat,int .i64 (0:Int)],[(24576,aA.mk true true 1 a.toNat fun x=>int .u32 (0:Int))]))):=ah
theorem Su {A B i:Nat} {o:Nat->Nat}:aL T gn [18] 60 mQ [part qX [0]] ⟨aH mQ (AD A B i 24576),eZ 24576 (nl A+nl B) o,24577⟩=
  let b:List AV×aI:=([mag A,mag B,own 24576 1 0 (nl A+nl B),int .i64 (↑i:Int)],[(24576,aA.mk true true 1 (nl A+nl B) fun a=>int .u32 (↑(o a):Int))]);some (ag.fork (decide ((↑i:Int)<(↑(nl A):Int))) (ag.leaf au.normal b) (ag.leaf (au.exit 0) b)):=ah
theorem XO {A B i:Nat} {o:Nat->Nat}:aL T gn [] 60 tH (before xL [1,0,1]) ⟨aH mQ (AD A B i 24576),eZ 24576 (nl A+nl B) o,24577⟩=
  some (ag.leaf au.normal ([mag A,mag B,own 24576 1 0 (nl A+nl B),int .i64 (↑i:Int),int .u64 (0:Int),int .i64 (0:Int)],[(24576,aA.mk true true 1 (nl A+nl B) fun a=>int .u32 (↑(o a):Int))])):=ah
theorem Wd {A B i c j:Nat} {o:Nat->Nat}:aL T gn [24] 60 tH [part xL [1,0,1,0,0]] ⟨aH tH (Eg A B i c j 24576),eZ 24576 (nl A+nl B) o,24577⟩=
  let d:=(↑i:Int);let b:=(↑j:Int);let e:=nl A+nl B;let k:=own 24576 1 0 e;let f:=i64.wrap (d+b);let g:=f.toNat+0;let l:=[(0:Int)<=f/\f.toNat<e,g<e];let h:=u64.wrap ((↑c:Int)+u64.wrap (u64.wrap (u64.wrap (↑(aG A d.toNat):Int)*u64.wrap (↑(aG B b.toNat):Int))+u64.wrap (↑(o g):Int)));some (ag.fork (decide (b<(↑(nl B):Int))) (ag.aj (((0:Int)<=d/\d.toNat<nl A)::((0:Int)<=b/\b.toNat<nl B)::l) (ag.aj l (ag.aj [(0:Int)<=32] (ag.leaf au.normal ([mag A,mag B,k,int .i64 d,int .u64 (h.fdiv ((2:Int)^min (Int.toNat (32:Int)) u64.bits)),int .i64 (i64.wrap (b+1))],[(24576,aA.mk true true 1 e fun j=>if(j==g)=true then int .u32 (u32.wrap h)else aF o j)]))))) (ag.leaf (au.exit 2) ([mag A,mag B,k,int .i64 d,int .u64 (↑c:Int),int .i64 b],[(24576,aA.mk true true 1 e fun a=>int .u32 (↑(o a):Int))]))):=ah
theorem Za {A B i c j:Nat} {o:Nat->Nat}:aL T gn [] 60 mQ (behind xL [1,0,1]) ⟨aH tH (Eg A B i c j 24576),eZ 24576 (nl A+nl B) o,24577⟩=
  let a:=nl A+nl B;let b:=i64.wrap ((↑i:Int)+(↑(nl B):Int));let d:=b.toNat+0;some (ag.aj [(0:Int)<=b/\b.toNat<a,d<a] (ag.leaf au.normal ([mag A,mag B,own 24576 1 0 a,int .i64 (↑i:Int)],[(24576,aA.mk true true 1 a fun j=>if(j==d)=true then int .u32 (u32.wrap (↑c:Int))else aF o j)]))):=ah
theorem abf {A B i:Nat} {o:Nat->Nat}:aL T gn [] 60 mQ [part qX [1,1]] ⟨aH mQ (AD A B i 24576),eZ 24576 (nl A+nl B) o,24577⟩=
  some (ag.leaf au.normal ([mag A,mag B,own 24576 1 0 (nl A+nl B),int .i64 (i64.wrap ((↑i:Int)+1))],[(24576,aA.mk true true 1 (nl A+nl B) fun a=>int .u32 (↑(o a):Int))])):=ah
theorem aeO {A B i:Nat} {o:Nat->Nat}:dc T gn [] 60 f85 (behind (aK f85) [1,1,0,1]) ⟨aH mQ (AD A B i 24576),eZ 24576 (nl A+nl B) o,24577⟩=
  some (ag.aj [fL (nl A+nl B) fun i=>aF o (i+0),nl A+nl B<2^40] (ag.leaf au.ret [mag (val (nl A+nl B) fun i=>numOf (aF o (i+0)))])):=ah
abbrev vj:List Nat:=[0,1,6,7,8]
abbrev Fs (A b r k K:Nat):List AV:=[.mag A,.int .u32 b,.own K 1 0 (nl A),.int .u64 r,.int .i64 ((k:Int)-1)]
abbrev Ri:Code:=part (aK f156) [1,1,1,0,1,0,0]
theorem Tl {A b:Nat}:aL T gn [] 60 vj (before (aK f156) [1,1,1,0,1]) ⟨aZ 0 [.mag A,.int .u32 b],[],0⟩=
  let a:=(↑(nl A):Int);some (ag.aj [(0:Int)<=a/\a<=a/\a<=2^47/\a*(↑(4:Nat):Int)<=2^47] (ag.leaf au.normal ([mag A,int .u32 (↑b:Int),own 16384 1 0 a.toNat,int .u64 (0:Int),int .i64 (i64.wrap (a-1))],[(16384,aA.mk true true 1 a.toNat fun x=>int .u32 (0:Int))]))):=ah
theorem Ws {A b r k:Nat} {o:Nat->Nat}:aL T gn [16] 60 vj [Ri] ⟨aH vj (Fs A b r k 16384),eZ 16384 (nl A) o,16385⟩=
  let l:=int .u32 (↑b:Int);let g:=own 16384 1 0 (nl A);let e:=u64.wrap (↑b:Int);let d:=(↑k:Int)-1;let i:=(0:Int)<=d/\d.toNat<nl A;let h:=d.toNat+0;let f:=u64.wrap (↑(BitVec.ofInt u64.bits (u64.wrap ((↑r:Int)*2^min (Int.toNat (32:Int)) u64.bits))|||BitVec.ofInt u64.bits (u64.wrap (↑(aG A d.toNat):Int))).toNat:Int);some (ag.fork (decide (d>=0)) (ag.aj [(0:Int)<=32,i] (ag.aj [e≠(0:Int),i,h<nl A] (ag.aj [e≠(0:Int)] (ag.leaf au.normal ([mag A,l,g,int .u64 (f.tmod e),int .i64 (i64.wrap (d-1))],[(16384,aA.mk true true 1 (nl A) fun j=>if(j==h)=true then int .u32 (u32.wrap (u64.wrap (f.tdiv e)))else aF o j)]))))) (ag.leaf (au.exit 0) ([mag A,l,g,int .u64 (↑r:Int),int .i64 d],[(16384,aA.mk true true 1 (nl A) fun a=>int .u32 (↑(o a):Int))]))):=ah
theorem ahs {A b r k:Nat} {o:Nat->Nat}:dc T gn [] 60 f156 (behind (aK f156) [1,1,1,0,1]) ⟨aH vj (Fs A b r k 16384),eZ 16384 (nl A) o,16385⟩=
  some (ag.aj [fL (nl A) fun i=>aF o (i+0),nl A<2^40] (ag.leaf au.ret [mag (val (nl A) fun i=>numOf (aF o (i+0))),int .u32 (u32.wrap (↑r:Int))])):=ah
def Re:bE:=[(84,Aj),(175,pE (fun A B=>.mag (A-B)) fun A B=>[B<=A,nl A<2^40])]
theorem ace {A B:Nat}:cy T Re [9] 60 f147 (aK f147) ⟨aZ 0 [.mag A,.mag B],[],0⟩=
  let a:=2^40;some (ag.aj [nl A<a,nl B<a] (ag.fork (decide (eu A B<0)) (ag.leaf au.ret [nil,int .i64 (7:Int)]) (ag.aj [B<=A,nl A<a] (ag.leaf au.ret [mag (A-B),int .i64 (0:Int)])))):=ah
theorem jw {K n nx:Nat} {o:Nat->Nat} (h:K<nx):jW nx (eZ K n o):=⟨⟨h,fun _ _=>rfl⟩,trivial⟩
theorem acm {vo va vb ai x c b' un u' B:Nat} (hx:x=c+b') (hu:un+x=ai+4294967296*u') (h:va+c*B=vo+vb):va+ai*B+u'*(4294967296*B)=vo+un*B+(vb+b'*B):=by
 have e:(un+x)*B=(ai+4294967296*u')*B:=by rw[hu]
 subst hx
 grind
theorem My {A B:Nat} (hAB:B<=A) (hA:nl A<2^40) (K:Nat):aW P 175 K [.mag A,.mag B] [] (aO (.mag (A-B)) []):=by
 have hB:nl B<=nl A:=jz hAB
 refine jj hT ag0 rfl bh rfl (fun _ c0 h0=>?_) K []
 refine az.hole [1,1,1,0,1] ah (aJ.bU hT gB hm 60 qm Wn ah ?_)
 simp only[ag.all,aC,bS]
 refine⟨aa,fun s' hv=>dx ?_⟩
 refine az.jG (i:=0) (y:=OI) ah qm 12289 (h0 _) (fun p:Nat×Nat×(Nat->Nat)=>A1 A B p.2.1 p.1 12288) (fun p=>eZ 12288 (nl A) p.2.2) (fun _=>rfl) (fun _=>jw aa)
  (fun p=>p.1<=nl A/\p.2.1<=1/\(∀j,j<nl A->p.2.2 j<2^32)/\val p.1 (aG A)+p.2.1*2^(32*p.1)=val p.1 p.2.2+val p.1 (aG B))
  (fun p=>nl A-p.1) (0,0,fun _=>0) hv ⟨by simp,by simp,fun _ _=>by simp,by simp[val]⟩ ?_
 rintro⟨i,c,o⟩ ⟨hi,hc,ho,hval⟩
 simp only at hi hc ho hval
 refine az.bU hT gB hm 60 qm akr ah ?_
 have la:=fB (N:=A) (i:=i)
 have lb:=fB (N:=B) (i:=i)
 have wa:u64.wrap (aG A i:Int)=((aG A i:Nat):Int):=cR aa aa
 have wb:u64.wrap (aG B i:Int)=((aG B i:Nat):Int):=cR aa aa
 have w1:u64.wrap ((c:Int)+((aG B i:Nat):Int))=((c+aG B i:Nat):Int):=by rw[cR aa aa];omega
 have w2:u64.wrap (((aG A i:Nat):Int)+4294967296)=((aG A i+4294967296:Nat):Int):=by rw[cR aa aa];omega
 have w3:i64.wrap ((i:Int)+1)=((i+1:Nat):Int):=by rw[wrap_i64 aa aa];omega
 simp only[ag.all,aC,bI,bR,bS,Nat.add_zero,beq_iff_eq]
 rw[wa,wb,w1,w2,w3]
 -- what is put down
 have next:∀{s':aP} {x u':Nat} {v:Int},i<nl A->x=c+aG B i->u'<=1->x<=aG A i+4294967296*u'->aG A i+4294967296*u'<x+4294967296->v=((aG A i+4294967296*u'-x:Nat):Int)->
   bJ qm s'=some (A1 A B u' (i+1) 12288,[(12288,⟨true,true,1,nl A,fun j=>if j=i then .int .u32 (u32.wrap (u64.wrap v))else aF o j⟩)])->
   ∃k:Nat×Nat×(Nat->Nat),bJ qm s'=some (A1 A B k.2.1 k.1 12288,eZ 12288 (nl A) k.2.2)/\(k.1<=nl A/\k.2.1<=1/\(∀j,j<nl A->k.2.2 j<2^32)/\val k.1 (aG A)+k.2.1*2^(32*k.1)=val k.1 k.2.2+val k.1 (aG B))/\nl A-k.1<nl A-i:=by
  intro s' x u' v hin hx hu1 h1 h2 hv1 hv
  refine⟨(i+1,u',cX o i (aG A i+4294967296*u'-x)),fC hv rfl ?_,⟨by simp only;omega,hu1,jQ aa ho,?_⟩,by simp only;omega⟩
  ·simp only[eZ]
   congr 3
   funext k
   exact jC (by rw[hv1,cR aa aa,wrap_u32 aa aa]) k
  ·simp only
   rw[tN,val,val,jH]
   exact acm (b':=aG B i) (x:=x) hx aa hval
 refine⟨fun hb=>⟨fun hb2=>⟨aa,aa,fun h3=>⟨⟨aa,aa⟩,fun s' hv=>?_⟩,fun h3=>⟨⟨aa,aa⟩,fun s' hv=>?_⟩⟩,fun hb2=>⟨aa,fun h3=>⟨⟨aa,aa⟩,fun s' hv=>?_⟩,fun h3=>⟨⟨aa,aa⟩,fun s' hv=>?_⟩⟩⟩,fun hb s' hv=>gR (dx ?_)⟩
 ·exact next (u':=1) aa rfl aa aa aa aa hv
 ·exact next (u':=0) aa rfl aa aa aa aa hv
 ·exact next (u':=1) (x:=c) aa (by rw[kO (A:=B) aa];rfl) aa aa aa aa hv
 ·exact next (u':=0) (x:=c) aa (by rw[kO (A:=B) aa];rfl) aa aa aa aa hv
 ·have hin:i=nl A:=aa
  refine aJ.mw hT gB hm 60 hv (h0 _) rfl (jw aa) aeZ ah ah ?_
  simp only[ag.all,aC,Nat.add_zero,lQ]
  refine⟨⟨jg ho,hA⟩,fG (congrArg AV.mag ?_)⟩
  rw[hin,iW,rH (eP.1 hB)]at hval
  have hlt:=iL ho
  have:c=0:=by
   rcases Nat.eq_zero_or_pos c with h|h
   ·exact h
   ·exfalso
    have h1:1*2^(32*nl A)<=c*2^(32*nl A):=Nat.mul_le_mul_right _ h
    omega
  rw[this]at hval
  omega
theorem Xs:bY P Re:=aM C3 (aM (sR fun h=>My h.1 h.2) cJ)
theorem Sm {A B:Nat} (hA:nl A<2^40) (hB:nl B<2^40) (K:Nat):aW P 147 K [.mag A,.mag B] [] (aO (.tuple [.mag (A-B),.int .i64 (if A<B then 7 else 0)]) []):=by
 refine cB hT Xs hm afJ rfl bh rfl 60 ace (fun _=>?_) K []
 simp only[ag.all,aC,bI,bR,CS]
 refine⟨⟨hA,hB⟩,fun h=>⟨?_,cE (by rw[if_pos h]),trivial⟩,fun h=>⟨⟨aa,hA⟩,.refl _,cE (by rw[if_neg h]),trivial⟩⟩
 rw[Nat.sub_eq_zero_of_le aa];exact mP
def Qt:Spec:=pE (fun A B=>.tuple [.mag (A-B),.int .i64 (if A<B then 7 else 0)]) GB
theorem Zx:bp P Qt 147:=sR fun h=>Sm h.1 h.2
theorem ahO {A B:Nat} (hA:nl A<2^39) (hB:nl B<2^39) (K:Nat):aW P 85 K [.mag A,.mag B] [] (aO (.mag (A*B)) []):=by
 refine jj hT U9 rfl bh rfl (fun _ c0 h0=>?_) K []
 refine az.hole [1,1,0,1] ah (aJ.bU hT gB hm 60 mQ SU ah ?_)
 have hw:i64.wrap ((nl A:Int)+(nl B:Int))=((nl A+nl B:Nat):Int):=gl aa aa
 rw[hw]
 simp only[ag.all,aC,bS]
 refine⟨aa,fun s' hv=>dx ?_⟩
 refine az.jG (i:=0) (y:=qX) ah mQ 24577 (h0 _) (fun p:Nat×(Nat->Nat)=>AD A B p.1 24576) (fun p=>eZ 24576 (nl A+nl B) p.2) (fun _=>rfl) (fun _=>jw aa)
  (fun p=>p.1<=nl A/\(∀j,j<nl A+nl B->p.2 j<2^32)/\(∀j,p.1+nl B<=j->p.2 j=0)/\val (nl A+nl B) p.2=val p.1 (aG A)*B)
  (fun p=>nl A-p.1) (0,fun _=>0) hv ⟨by simp,fun _ _=>by simp,fun _ _=>rfl,?_⟩ ?_
 ·simp only
  rw[val_zero fun _ _=>rfl]
  simp[val]
 rintro⟨i,o⟩ ⟨hi,ho,ho0,hval⟩
 simp only at hi ho ho0 hval
 refine az.hole [0] ah (show az P c0 f85.ntmps (part qX [0]) _ _ from az.bU hT gB hm 60 mQ Su ah ?_)
 simp only[ag.all,bI,bR]
 refine⟨fun h1 s' hv=>dx ?_,fun h1 s' hv=>ud (gR (dx ?_))⟩
 ·have hin:i<nl A:=aa
  have la:=fB (N:=A) (i:=i)
  show aJ P c0 f85.ntmps [part qX [1]] s' _
  refine az.hole [0] ah ?_
  show az P c0 f85.ntmps (part qX [1,0]) s' _
  refine az.rT (i:=1) (y:=xL) ah (az.lZ hv (h0 24577) rfl (jw aa) ?_)
  refine az.hole [1,0,1] ah (aJ.bU hT gB hm 60 tH XO ah fun s' hv=>dx ?_)
  refine az.jG (i:=2) (y:=part xL [1,0,1,0,0]) ah tH 24577 (h0 _) (fun p:Nat×Nat×(Nat->Nat)=>Eg A B i p.2.1 p.1 24576) (fun p=>eZ 24576 (nl A+nl B) p.2.2) (fun _=>rfl) (fun _=>jw aa)
   (fun p=>p.1<=nl B/\p.2.1<2^32/\(∀j,j<nl A+nl B->p.2.2 j<2^32)/\(∀j,i+nl B<=j->p.2.2 j=0)/\val (nl A+nl B) p.2.2+p.2.1*2^(32*(i+p.1))=val i (aG A)*B+aG A i*val p.1 (aG B)*2^(32*i))
   (fun p=>nl B-p.1) (0,0,o) hv ⟨by simp,by simp,ho,ho0,by simp[val,hval]⟩ ?_
  rintro⟨j,c,o⟩ ⟨hj,hc,ho,ho0,hval⟩
  simp only at hj hc ho ho0 hval
  refine az.bU hT gB hm 60 tH Wd ah ?_
  have hij:i64.wrap ((i:Int)+(j:Int))=((i+j:Nat):Int):=gl aa aa
  have lb:=fB (N:=B) (i:=j)
  simp only[ag.all,aC,bI,bR,hij,bS,Nat.add_zero,beq_iff_eq]
  refine⟨fun h2=>?_,fun h2 s' hv=>gR ?_⟩
  ·have hjm:j<nl B:=aa
   obtain⟨m1,m2,m3⟩:=JT hc la lb (ho (i+j) aa)
   rw[m1]
   refine⟨⟨aa,aa,aa,aa⟩,⟨aa,aa⟩,aa,fun s' hv=>⟨(j+1,(c+aG A i*aG B j+o (i+j))/4294967296,cX o (i+j) ((c+aG A i*aG B j+o (i+j))%4294967296)),fC hv ?_ ?_,⟨by simp only;omega,m3,jQ aa ho,fun k hk=>?_,?_⟩,by simp only;omega⟩⟩
   ·rw[nY,gl (a:=(j:Int)+1) (n:=j+1) aa aa]
    simp only[Eg,List.cons.injEq,AV.int.injEq,and_true,true_and]
    omega
   ·simp only[eZ]
    congr 3
    funext k
    exact jC (by rw[lE]) k
   ·exact(iw aa).trans (ho0 k hk)
   ·simp only
    rw[show 32*(i+(j+1))=32*((i+j)+1) by omega,jH,val]
    have hset:=GF (o:=o) (x:=(c+aG A i*aG B j+o (i+j))%4294967296) (show i+j<nl A+nl B by omega)
    exact LH rfl (Nat.div_add_mod _ _) hset (by rw[<-Nat.pow_add];congr 1;omega) hval
  ·show aJ P c0 f85.ntmps (behind xL [1,0,1]) s' _
   have hjm:j=nl B:=aa
   have hib:i64.wrap ((i:Int)+(nl B:Int))=((i+nl B:Nat):Int):=gl aa aa
   refine aJ.gL hT gB hm 60 hv (h0 24577) rfl (jw aa) mQ Za ah ah ?_
   rw[hib]
   simp only[ag.all,aC,bS,Nat.add_zero,beq_iff_eq]
   refine⟨⟨aa,aa⟩,fun s' hv=>?_⟩
   have hf:(fun k=>if k=i+nl B then AV.int .u32 (u32.wrap (c:Int))else aF o k)=aF (cX o (i+nl B) c):=by
    funext k
    exact jC (wrap_u32 aa aa) k
   rw[hf]at hv
   show aJ P c0 f85.ntmps [part qX [1,1]] s' _
   refine aJ.gL hT gB hm 60 hv (h0 24577) rfl (jw aa) mQ abf ah ah fun s' hv=>dx ?_
   refine⟨(i+1,cX o (i+nl B) c),fC hv ?_ rfl,⟨by simp only;omega,jQ hc ho,fun k hk=>(iw (by simp only at hk;omega)).trans (ho0 k (by simp only at hk;omega)),?_⟩,by simp only;omega⟩
   ·rw[gl (a:=(i:Int)+1) (n:=i+1) aa aa]
   ·simp only
    rw[hjm,iW]at hval
    rw[u6 aa (ho0 _ aa),hval,val,Nat.add_mul,Nat.mul_assoc,Nat.mul_assoc,Nat.mul_comm B]
 ·have hin:i=nl A:=aa
  refine aJ.mw hT gB hm 60 hv (h0 _) rfl (jw aa) aeO ah ah ?_
  simp only[ag.all,aC,Nat.add_zero,lQ]
  refine⟨⟨jg ho,aa⟩,fG (congrArg AV.mag ?_)⟩
  rw[hval,hin,iW]
def II:Spec:=pE (fun A B=>.mag (A*B)) fun A B=>[nl A<2^39,nl B<2^39]
theorem Qn:bp P II 85:=sR fun h=>ahO h.1 h.2
theorem Om {v b r A:Nat} (h:v*b+r=A) (hr:r<b):A/b=v/\A%b=r:=by
 subst h
 refine⟨?_,?_⟩
 ·rw[Nat.mul_comm,Nat.mul_add_div aa,Nat.div_eq_of_lt hr,Nat.add_zero]
 ·rw[Nat.mul_comm,Nat.mul_add_mod,Nat.mod_eq_of_lt hr]
theorem ad2 {A b:Nat} (hA:nl A<2^40) (hb0:0<b) (hb32:b<2^32) (K:Nat):aW P 156 K [.mag A,.int .u32 b] [] (aO (.tuple [.mag (A/b),.int .u32 (A%b:Nat)]) []):=by
 refine jj hT aeW rfl bh rfl (fun _ c0 h0=>?_) K []
 refine az.hole [1,1,1,0,1] ah (aJ.bU hT gB hm 60 vj Tl ah ?_)
 simp only[ag.all,aC,bS]
 refine⟨aa,fun s' hv=>dx ?_⟩
 refine az.jG (i:=0) (y:=Ri) ah vj 16385 (h0 _) (fun p:Nat×Nat×(Nat->Nat)=>Fs A b p.2.1 p.1 16384) (fun p=>eZ 16384 (nl A) p.2.2) (fun _=>rfl) (fun _=>jw aa)
  (fun p=>p.1<=nl A/\p.2.1<b/\(∀j,j<nl A->p.2.2 j<2^32)/\(∀j,j<p.1->p.2.2 j=0)/\val (nl A) p.2.2*b+p.2.1*2^(32*p.1)+val p.1 (aG A)=A)
  (fun p=>p.1) (nl A,0,fun _=>0) (fC hv (by rw[wrap_i64 aa aa];rfl) rfl) ⟨by simp,hb0,fun j _=>by simp,fun j _=>rfl,?_⟩ ?_
 ·simp only
  rw[val_zero fun _ _=>rfl,iW]
  simp
 rintro⟨k,r,o⟩ ⟨hk,hr,ho,ho0,hval⟩
 simp only at hk hr ho ho0 hval
 refine az.bU hT gB hm 60 vj Ws ah ?_
 simp only[ag.all,aC,bI,bR,Nat.add_zero,beq_iff_eq]
 have hbw:u64.wrap (b:Int)=(b:Int):=cR aa aa
 refine⟨fun hb=>?_,fun hb s' hv=>gR (dx ?_)⟩
 ·obtain⟨j,rfl⟩:∃j,k=j+1:=⟨k-1,aa⟩
  have e:(((j+1:Nat):Int)-1).toNat=j:=aa
  have hzj:=fB (N:=A) (i:=j)
  have gi:=xN (a:=r) (b:=aG A j) aa hzj
  rw[e,gi,hbw]
  have hq1:(r*4294967296+aG A j)/b<2^32:=by
   rw[Nat.div_lt_iff_lt_mul hb0]
   have:(r+1)*4294967296<=b*4294967296:=Nat.mul_le_mul_right _ hr
   omega
  have hdm:=Nat.div_add_mod (r*4294967296+aG A j) b
  refine⟨⟨aa,aa,aa⟩,⟨aa,⟨aa,aa⟩,aa⟩,aa,fun s' hv=>⟨(j,(r*4294967296+aG A j)%b,cX o j ((r*4294967296+aG A j)/b)),fC hv ?_ ?_,⟨by simp only;omega,Nat.mod_lt _ hb0,jQ hq1 ho,fun i hi=>?_,?_⟩,by simp only;omega⟩⟩
  ·rw[<-Int.ofNat_tmod,wrap_i64 aa aa,show((j+1:Nat):Int)-1-1=(j:Int)-1 by omega]
  ·simp only[eZ]
   congr 3
   funext i
   refine jC ?_ i
   rw[<-Int.ofNat_tdiv]
   clear hdm
   generalize (r*4294967296+aG A j)/b=q at hq1 ⊢
   rw[cR aa aa,wrap_u32 aa aa]
  ·exact(iw (by simp only at hi;omega)).trans (ho0 i (by simp only at hi;omega))
  ·simp only
   rw[u6 aa (ho0 j aa)]
   rw[jH,val]at hval
   exact PM hval hdm.symm
 ·have hk0:k=0:=aa
  have hv2:val (nl A) o*b+r=A:=by rw[hk0]at hval;simpa [val]using hval
  refine aJ.mw hT gB hm 60 hv (h0 _) rfl (jw aa) ahs ah ah ?_
  simp only[ag.all,aC,Nat.add_zero,lQ]
  obtain⟨hdiv,hmod⟩:=Om hv2 hr
  exact⟨⟨jg ho,hA⟩,fG (congrArg AV.mag hdiv.symm),cE (by rw[hmod,wrap_u32 aa aa]),trivial⟩
def Jm:Spec:=cD fun l=>match l with
 |[a,.int .u32 b]=>match kB a with
  |some A=>some (aO (.tuple [.mag (A/b.toNat),.int .u32 (A%b.toNat:Nat)]) [nl A<2^40,0<b,b<2^32])
  |none=>none
 |_=>none
theorem LS:bp P Jm 156:=by
 refine cZ fun K args r hk hs _=>?_
 split at hs
 ·rename_i a b
  split at hs
  ·rename_i A hA
   simp only[aB]at hs
   subst hs
   intro need
   obtain⟨h1,h2,h3⟩:nl A<2^40/\0<b/\b<2^32:=need
   obtain⟨b,rfl⟩:=Int.eq_ofNat_of_zero_le (Int.le_of_lt h2)
   exact iz (ad2 h1 aa aa K) hk ⟨nO hA,.refl _,trivial⟩ [] trivial
  ·simp at hs
 ·simp at hs
theorem R8:bu 188 f188:=bC func188
theorem agL:bu 189 f189:=bC func189
theorem ai4:bu 190 f190:=bC func190
theorem abF:bu 191 f191:=bC func191
abbrev uv:List Nat:=[0,1,5,6,7]
abbrev DU (A n l c i K:Nat):List AV:=[.mag A,.int .i64 n,.own K 1 0 l,.int .u64 c,.int .i64 i]
abbrev Ns:Code:=part (aK f188) [1,1,1,0,1,0,0]
def LL:bE:=[(140,wI),(138,y9),(85,II)]
theorem ac1:bY P LL:=aM A5 (aM D8 (aM Qn cJ))
theorem ade {A n:Nat}:aL T gn [] 60 uv (before (aK f188) [1,1,1,0,1]) ⟨aZ 0 [.mag A,.int .i64 n],[],0⟩=
  let a:=i64.wrap ((↑n:Int).tdiv (32:Int));some (ag.aj [(32:Int)≠(0:Int),(0:Int)<=a/\a<=a/\a<=2^47/\a*(↑(4:Nat):Int)<=2^47] (ag.leaf au.normal ([mag A,int .i64 (↑n:Int),own 12288 1 0 a.toNat,int .u64 (0:Int),int .i64 (0:Int)],[(12288,aA.mk true true 1 a.toNat fun x=>int .u32 (0:Int))]))):=ah
theorem Wp {A n l c i:Nat} {o:Nat->Nat}:aL T gn [14] 60 uv [Ns] ⟨aH uv (DU A n l c i 7),eZ 7 l o,8⟩=
  let f:=(↑n:Int).tmod (32:Int);let e:=int .i64 (↑n:Int);let b:=(↑i:Int);let d:=u64.wrap (↑(BitVec.ofInt u64.bits (↑c:Int)|||BitVec.ofInt u64.bits (u64.wrap (u64.wrap (↑(aG A b.toNat):Int)*2^min f.toNat u64.bits))).toNat:Int);some (ag.fork (decide (b<(↑(nl A):Int))) (ag.aj [(0:Int)<=b/\b.toNat<nl A,(32:Int)≠(0:Int),(0:Int)<=f] (ag.aj [(1:Nat)*1<=2^24,(l+1)*((4:Nat)+1)*2<=2^47] (ag.aj [(0:Int)<=32] (ag.leaf au.normal ([mag A,e,own 77832 1 0 (l+1),int .u64 (d.fdiv ((2:Int)^min (Int.toNat (32:Int)) u64.bits)),int .i64 (i64.wrap (b+1))],[(77832,aA.mk true true 1 (l+1) fun i=>if i<l then aF o i else nth [int .u32 (u32.wrap d)] (int .u32 (0:Int)) (i-l+0))]))))) (ag.leaf (au.exit 0) ([mag A,e,own 7 1 0 l,int .u64 (↑c:Int),int .i64 b],[(7,aA.mk true true 1 l fun a=>int .u32 (↑(o a):Int))]))):=ah
theorem VK {A n l c i:Nat} {o:Nat->Nat}:dc T gn [] 60 f188 (behind (aK f188) [1,1,1,0,1]) ⟨aH uv (DU A n l c i 7),eZ 7 l o,8⟩=
  let d:=int .u32 (0:Int);let a:=l+1;let b:=int .u32 (u32.wrap (↑c:Int));some (ag.aj [(1:Nat)*1<=2^24,a*((4:Nat)+1)*2<=2^47,fL a fun i=>if i+0<l then aF o (i+0)else nth [b] d (i+0-l+0),a<2^40] (ag.leaf au.ret [mag (val a fun i=>numOf (if i+0<l then aF o (i+0)else nth [b] d (i+0-l+0)))])):=ah
theorem akc {A n:Nat}:cy T gn [7] 60 f189 (aK f189) ⟨aZ 0 [.mag A,.int .i64 n],[],0⟩=
  let a:=(↑n:Int);some (ag.fork ((↑(nl A):Int)==0) (ag.leaf au.ret [nil]) (ag.aj [(0:Int)<=a/\a<=a/\a<=2^47/\a*(↑(4:Nat):Int)<=2^47,(a.toNat+nl A)*((4:Nat)+1)*2<=2^47] (ag.leaf au.ret [aq 1 (a.toNat+nl A) fun i=>if i+0<a.toNat then int .u32 (0:Int)else int .u32 (↑(aG A (i+0-a.toNat)):Int)]))):=ah
theorem Tp {A b:Nat}:cy T LL [] 60 f190 (aK f190) ⟨aZ 0 [.mag A,.int .u32 b],[],0⟩=
  let a:=u64.wrap (↑b:Int);some (ag.aj [(0:Int)<=a/\a<2^64,nl A<2^39,nl a.toNat<2^39] (ag.leaf au.ret [mag (A*a.toNat)])):=ah
abbrev p7:List Nat:=[0,1,5,6]
abbrev Bh (a:Nat->Nat) (l n i K:Nat):List AV:=[.aq 1 l (aF a),.int .i64 n,.own K 1 0 l,.int .i64 i]
abbrev Rr:Code:=part (aK f191) [1,1,1,1,0,1,0,0]
theorem XZ {A n:Nat}:aL T gn [12] 60 (p7++[4]) (before (aK f191) [1,1,1,1,0,1]) ⟨aZ 0 [.mag A,.int .i64 n],[],0⟩=
  let f:=int .i64 (↑n:Int);let a:=(↑(nl A):Int);let d:=i64.wrap ((↑n:Int).tdiv (32:Int));let e:=a.toNat-d.toNat;let b:=(↑e:Int);some (ag.aj [(32:Int)≠(0:Int)] (ag.fork (decide (d>=a)) (ag.leaf au.ret ([mag A,f,tuple [],tuple [],nil],[])) (ag.aj [(32:Int)≠(0:Int),(0:Int)<=d/\d<=a/\a<=a/\a<=a] (ag.aj [(0:Int)<=b/\b<=b/\b<=2^47/\b*(↑(4:Nat):Int)<=2^47] (ag.leaf au.normal ([aq 1 e fun i=>int .u32 (↑(aG A (i+d.toNat)):Int),f,own 53248 1 0 b.toNat,int .i64 (0:Int),nil],[(53248,aA.mk true true 1 b.toNat fun x=>int .u32 (0:Int))])))))):=ah
theorem Vg {n l i:Nat} {a o:Nat->Nat}:aL T gn [23,35] 60 p7 [Rr] ⟨aH p7 (Bh a l n i 7),eZ 7 l o,8⟩=
  let h:=(↑l:Int);let g:=(↑n:Int).tmod (32:Int);let f:=int .i64 (↑n:Int);let t:=own 7 1 0 l;let b:=(↑i:Int);let s:=aq 1 l fun a_1=>int .u32 (↑(a a_1):Int);let r:=(2:Int)^min g.toNat u64.bits;let k:=b.toNat;let d:=i64.wrap (b+1);let e:=u64.wrap (↑(a k):Int);let m:=k+0;let p:=[s,f,t,int .i64 d];let q:=[(32:Int)≠(0:Int),(0:Int)<=g,(0:Int)<=b/\k<l,m<l];some (ag.fork (decide (b<h)) (ag.aj [(0:Int)<=b/\k<l] (ag.fork (decide (d<h)) (ag.aj [(0:Int)<=d/\d.toNat<l,(0:Int)<=32] (ag.aj q (ag.leaf au.normal (p,[(7,aA.mk true true 1 l fun j=>if(j==m)=true then int .u32 (u32.wrap ((u64.wrap (↑(BitVec.ofInt u64.bits e|||BitVec.ofInt u64.bits (u64.wrap (u64.wrap (↑(a d.toNat):Int)*2^min (Int.toNat (32:Int)) u64.bits))).toNat:Int)).fdiv r))else aF o j)])))) (ag.aj q (ag.leaf au.normal (p,[(7,aA.mk true true 1 l fun j=>if(j==m)=true then int .u32 (u32.wrap (e.fdiv r))else aF o j)]))))) (ag.leaf (au.exit 0) ([s,f,t,int .i64 b],[(7,aA.mk true true 1 l fun a=>int .u32 (↑(o a):Int))]))):=ah
theorem aeM {n l i:Nat} {a o:Nat->Nat}:dc T gn [] 60 f191 (behind (aK f191) [1,1,1,1,0,1]) ⟨aH p7 (Bh a l n i 7),eZ 7 l o,8⟩=
  some (ag.aj [fL l fun i=>aF o (i+0),l<2^40] (ag.leaf au.ret [mag (val l fun i=>numOf (aF o (i+0)))])):=ah
theorem DJ {c:Ctx} (h0:∀nx k x,c.k0 k=some x->k<nx):c.k0=bQ:=by
 funext k
 cases hk:c.k0 k with
 |none=>rfl
 |some x=>have:=h0 0 k x hk;omega
theorem OP {o:Nat->Nat} {l:Nat} {v:Int} {x:Nat} (hv:v=(x:Nat)) {j:Nat} (hj:j<l+1):(if j<l then aF o j else nth [.int .u32 v] (.int .u32 0) (j-l))=aF (cX o l x) j:=by
 by_cases h:j<l
 ·rw[if_pos h];unfold aF;rw[iw aa]
 ·have:j=l:=aa
  subst this
  rw[if_neg h,hv]
  simp[nth,aF,me]
theorem adl {A n:Nat} (hA:nl A<2^39) (hn:n<2^43) (K:Nat):aW P 188 K [.mag A,.int .i64 n] [] (aO (.mag (A*2^n)) []):=by
 refine jj hT R8 rfl bh rfl (fun _ c0 h0=>?_) K []
 have hk0:=DJ h0
 refine az.hole [1,1,1,0,1] ah (aJ.bU hT gB hm 60 uv ade ah ?_)
 have hw:i64.wrap ((n:Int).tdiv 32)=((n/32:Nat):Int):=by
  rw[show(n:Int).tdiv 32=((n/32:Nat):Int)from(Int.ofNat_tdiv n 32).symm]
  exact gl rfl aa
 have hmd:(n:Int).tmod 32=((n%32:Nat):Int):=(Int.ofNat_tmod n 32).symm
 rw[hw]
 obtain⟨k,hk⟩:∃k,k=n/32:=⟨_,rfl⟩
 obtain⟨s,hs⟩:∃s,s=n%32:=⟨_,rfl⟩
 rw[<-hs]at hmd
 rw[<-hk]
 simp only[ag.all,aC,bS]
 refine⟨aa,fun s' hv=>dx ?_⟩
 refine az.jK (i:=0) (y:=Ns) ah (fun p:Nat×Nat×(Nat->Nat)=>⟨aH uv (DU A n (k+p.1) p.2.1 p.1 7),eZ 7 (k+p.1) p.2.2,8⟩)
  (fun p=>p.1<=nl A/\p.2.1<2^s/\(∀j,j<k+p.1->p.2.2 j<2^32)/\val (k+p.1) p.2.2+p.2.1*2^(32*(k+p.1))=val p.1 (aG A)*2^(32*k)*2^s)
  (fun p=>nl A-p.1) (0,0,fun _=>0)
  (fe [(7,12288)] hv hk0 rfl ⟨aY,aY,⟨rfl,eR rfl rfl rfl⟩,aY,aY,trivial⟩ ⟨⟨_,_,rfl,rfl,gZ rfl fun j _=>rfl⟩,trivial⟩)
  ⟨by simp,Nat.two_pow_pos s,fun _ _=>by simp,?_⟩ ?_
 ·simp only
  rw[val_zero fun _ _=>rfl]
  simp[val]
 rintro⟨i,c,o⟩ ⟨hi,hc,ho,hval⟩
 simp only at hi hc ho hval
 have hs32:s<32:=aa
 have h31:2^s<=2^31:=Nat.pow_le_pow_right aa aa
 have hzi:=fB (N:=A) (i:=i)
 refine az.bU hT gB hm 60 uv Wp ah ?_
 rw[hmd]
 have gi:=JM hs32 hzi hc
 obtain⟨b1,b2⟩:=Qu hs32 hzi hc
 simp only[ag.all,aC,bI,bR,bS,Nat.add_zero]at gi ⊢
 rw[gi]
 refine⟨fun hb=>⟨⟨aa,aa,aa⟩,⟨aa,aa⟩,aa,fun s' hv=>⟨(i+1,(c+aG A i*2^s)/4294967296,cX o (k+i) ((c+aG A i*2^s)%4294967296)),?_,⟨by simp only;omega,b2,fun j hj=>?_,?_⟩,by simp only;omega⟩⟩,fun hb s' hv=>gR ?_⟩
 ·refine fe (vs:=DU A n (k+(i+1)) ((c+aG A i*2^s)/4294967296) (i+1) 7) (ps:=eZ 7 (k+(i+1)) (cX o (k+i) ((c+aG A i*2^s)%4294967296))) [(7,77832)] hv hk0 rfl ⟨aY,aY,⟨rfl,eR rfl rfl rfl⟩,⟨rfl,jb ?_⟩,⟨rfl,jb ?_⟩,trivial⟩
   ⟨⟨_,_,rfl,rfl,gZ rfl fun j hj=>OP (by rw[lE]) aa⟩,trivial⟩
  ·rw[nY];omega
  ·rw[wrap_i64 aa aa];omega
 ·simp only at hj ⊢
  unfold cX
  split
  ·omega
  ·exact ho j aa
 ·simp only
  have:=RB (x:=aG A i) hval
  rw[show k+(i+1)=(k+i)+1 by omega,tN,jH,this,val]
  congr 1
  rw[Nat.add_mul,Nat.mul_assoc,<-Nat.pow_add,show 32*i+32*k=32*(k+i) by omega]
 ·have hin:i=nl A:=aa
  show aJ P c0 f188.ntmps (behind (aK f188) [1,1,1,0,1]) s' _
  refine aJ.mw hT gB hm 60 hv (h0 _) rfl (jw aa) VK ah ah ?_
  simp only[ag.all,aC,Nat.add_zero]
  have ho':∀j,j<k+i+1->cX o (k+i) c j<2^32:=fun j hj=>by
   unfold cX
   split
   ·omega
   ·exact ho j aa
  have e:∀j,j<k+i+1->(if j<k+i then aF o j else nth [.int .u32 (u32.wrap (c:Int))] (.int .u32 0) (j-(k+i)))=aF (cX o (k+i) c) j:=fun j hj=>OP (wrap_u32 aa aa) hj
  refine⟨⟨aa,aa,fun j hj=>?_,aa⟩,fG (congrArg AV.mag ?_)⟩
  ·exact⟨_,ho' j hj,e j hj⟩
  ·rw[val_congr (y:=cX o (k+i) c) fun j hj=>(congrArg numOf (e j hj)).trans Fx,tN,hval,hin,iW,Nat.mul_assoc,<-Nat.pow_add]
   congr 2
   omega
def NA:Spec:=cD fun l=>match l with
 |[a,.int .i64 n]=>match kB a with
  |some A=>some (aO (.mag (A*2^n.toNat)) [nl A<2^39,0<=n,n<2^43])
  |none=>none
 |_=>none
theorem Gb {f:FuncId} {g:Nat->Int->AV} {l:Nat->List Prop} {m:Int} (h:∀{A n:Nat},aC (l A)->(n:Int)<m->∀K,aW P f K [.mag A,.int .i64 n] [] (aO (g A n) [])):∀K args pre r,cD (fun a=>match a with
 |[a,.int .i64 n]=>match kB a with
  |some A=>some (aO (g A n) (l A++[0<=n,n<m]))
  |none=>none
 |_=>none) K args pre=some r->aW P f K args pre r:=by
 refine cZ fun K args r hk hs _=>?_
 split at hs
 ·split at hs
  ·rename_i A hA
   simp only[aB]at hs
   subst hs
   intro need
   obtain⟨h1,h2,h3⟩:=ia.1 need
   rename_i n _
   obtain⟨n,rfl⟩:=Int.eq_ofNat_of_zero_le h2
   exact iz (h h1 h3 K) hk ⟨nO hA,.refl _,trivial⟩ [] trivial
  ·simp at hs
 ·simp at hs
theorem Xj:bp P NA 188:=
 Gb (g:=fun A n=>.mag (A*2^n.toNat)) (l:=fun A=>[nl A<2^39]) (m:=2^43) fun {A n} h hn K=>by
  have:=adl (A:=A) (n:=n) h aa K
  simpa using this
theorem TU {A n:Nat} (hA:nl A<2^40) (hn:n<2^40) (K:Nat):aW P 189 K [.mag A,.int .i64 n] [] (aO (.mag (A*2^(32*n))) []):=by
 refine cB hT gB hm agL rfl bh rfl 60 akc (fun _=>?_) K []
 simp only[ag.all,aC,beq_iff_eq,beq_eq_false_iff_ne,ne_eq,bS,Nat.add_zero]
 refine⟨fun hb=>?_,fun hb=>⟨⟨aa,aa⟩,?_⟩⟩
 ·have:A=0:=lz.1 aa
  subst this
  rw[Nat.zero_mul];exact mP
 ·have hA0:A≠0:=fun h=>hb (by rw[h];rfl)
  have hlt:A*2^(32*n)<2^(32*(n+nl A)):=by
   rw[show 32*(n+nl A)=32*nl A+32*n by omega,Nat.pow_add]
   exact(Nat.mul_lt_mul_right (Nat.two_pow_pos _)).2 oS
  have hval:A*2^(32*n)=val (n+nl A) (fun i=>if i<n then 0 else aG A (i-n)):=by
   rw[val_add,val_zero fun i hi=>if_pos hi,Nat.zero_add]
   congr 1
   have:=iW (N:=A)
   conv=>lhs;rw[<-this]
   exact val_congr fun i hi=>by rw[if_neg aa];congr 1;omega
  have hz:∀i,i<n+nl A->(if i<n then 0 else aG A (i-n))<2^32:=fun i _=>by
   split
   ·omega
   ·exact fB
  refine l9 ?_ fun i hi=>?_
  ·rw[hval]
   refine CB hz (.inr ?_)
   have hp:=jc.2 hA0
   rw[if_neg aa,show n+nl A-1-n=nl A-1 by omega]
   exact AH hA0
  ·rw[hval,ri hz hi]
   split<;>rfl
def MC:Spec:=cD fun l=>match l with
 |[a,.int .i64 n]=>match kB a with
  |some A=>some (aO (.mag (A*2^(32*n.toNat))) [nl A<2^40,0<=n,n<2^40])
  |none=>none
 |_=>none
theorem adO:bp P MC 189:=
 Gb (g:=fun A n=>.mag (A*2^(32*n.toNat))) (l:=fun A=>[nl A<2^40]) (m:=2^40) fun {A n} h hn K=>by
  have:=TU (A:=A) (n:=n) h aa K
  simpa using this
theorem SR {A b:Nat} (hA:nl A<2^39) (hb:b<2^32) (K:Nat):aW P 190 K [.mag A,.int .u32 b] [] (aO (.mag (A*b)) []):=by
 refine cB hT ac1 hm ai4 rfl bh rfl 60 Tp (fun _=>?_) K []
 have e:u64.wrap (b:Int)=(b:Int):=cR aa aa
 rw[e]
 simp only[ag.all,aC,bS]
 have:nl b<=1:=eP.2 aa
 exact⟨⟨aa,hA,aa⟩,.refl _⟩
def Mz:Spec:=cD fun l=>match l with
 |[a,.int .u32 b]=>match kB a with
  |some A=>some (aO (.mag (A*b.toNat)) [nl A<2^39,0<=b,b<2^32])
  |none=>none
 |_=>none
theorem abC:bp P Mz 190:=by
 refine cZ fun K args r hk hs _=>?_
 split at hs
 ·rename_i a b
  split at hs
  ·rename_i A hA
   simp only[aB]at hs
   subst hs
   intro need
   obtain⟨h1,h2,h3⟩:nl A<2^39/\0<=b/\b<2^32:=need
   obtain⟨b,rfl⟩:=Int.eq_ofNat_of_zero_le h2
   exact iz (SR h1 aa K) hk ⟨nO hA,.refl _,trivial⟩ [] trivial
  ·simp at hs
 ·simp at hs
theorem SI {A k i:Nat}:aG A (i+k)=aG (A/2^(32*k)) i:=by
 unfold aG
 rw[Nat.div_div_eq_div_mul,<-Nat.pow_add]
 congr 3
 omega
theorem aaS {a b s:Nat} (ha:a<2^32) (hb:b<2^32) (hs:s<32):(b*4294967296+a)/2^s%4294967296=a/2^s+b%2^s*2^(32-s):=by
 have:=Av (R:=b*4294967296+a) (k:=0) hs
 have l0:aG (b*4294967296+a) 0=a:=by unfold aG;simp;omega
 have l1:aG (b*4294967296+a) (0+1)=b:=by unfold aG;simp;omega
 rw[l0,l1]at this
 rw[<-this]
 unfold aG
 simp
theorem aaY {A n:Nat} (hA:nl A<2^40) (hn:n<2^62) (K:Nat):aW P 191 K [.mag A,.int .i64 n] [] (aO (.mag (A/2^n)) []):=by
 refine jj hT abF rfl bh rfl (fun _ c0 h0=>?_) K []
 have hk0:=DJ h0
 refine az.hole [1,1,1,1,0,1] ah (aJ.bU hT gB hm 60 (p7++[4]) XZ ah ?_)
 have hw:i64.wrap ((n:Int).tdiv 32)=((n/32:Nat):Int):=by
  rw[show(n:Int).tdiv 32=((n/32:Nat):Int)from(Int.ofNat_tdiv n 32).symm]
  exact gl rfl aa
 have hmd:(n:Int).tmod 32=((n%32:Nat):Int):=(Int.ofNat_tmod n 32).symm
 rw[hw]
 obtain⟨k,hk⟩:∃k,k=n/32:=⟨_,rfl⟩
 obtain⟨s,hs⟩:∃s,s=n%32:=⟨_,rfl⟩
 rw[<-hs]at hmd
 rw[<-hk]
 have hnk:2^n=2^(32*k)*2^s:=by rw[<-Nat.pow_add];congr 1;omega
 simp only[ag.all,aC,bI,bR,bS]
 refine⟨aa,fun hb s' hv=>gQ (.inl ?_),fun hb=>⟨⟨aa,aa⟩,aa,fun s' hv=>dx ?_⟩⟩
 ·refine jn (us:=[.nil]) (.inr rfl) hv ah ?_
  have:A/2^n=0:=by
   rw[hnk,<-Nat.div_div_eq_div_mul,Nat.div_eq_of_lt (eP.1 (show nl A<=k by omega)),Nat.zero_div]
  rw[this];exact mP
 have hkA:k<nl A:=aa
 have hv:=lR (ls:=p7) (l:=[4]) (vs:=[.aq 1 (nl A-k) fun i=>.int .u32 (aG A (i+k):Nat),.int .i64 n,.own 53248 1 0 (nl A-k),.int .i64 0]) hv rfl rfl
 obtain⟨R,hR⟩:∃R,R=A/2^(32*k):=⟨_,rfl⟩
 obtain⟨l,hl⟩:∃l,l=nl A-k:=⟨_,rfl⟩
 have hRl:R<2^(32*l):=by
  rw[hR,Nat.div_lt_iff_lt_mul (Nat.two_pow_pos _),<-Nat.pow_add,<-Nat.mul_add]
  exact eP.1 (show nl A<=l+k by omega)
 have hfun:(fun i=>AV.int .u32 (aG A (i+k):Nat))=aF (aG R):=by
  funext i;unfold aF;rw[SI,hR]
 rw[hfun,<-hl]at hv
 refine az.jK (i:=0) (y:=Rr) ah (fun p:Nat×(Nat->Nat)=>⟨aH p7 (Bh (aG R) l n p.1 7),eZ 7 l p.2,8⟩)
  (fun p=>p.1<=l/\∀j,j<p.1->p.2 j=aG (R/2^s) j)
  (fun p=>l-p.1) (0,fun _=>0)
  (fe [(7,53248)] hv hk0 rfl ⟨aY,aY,⟨rfl,eR rfl rfl rfl⟩,aY,trivial⟩ ⟨⟨_,_,rfl,rfl,gZ rfl fun j _=>rfl⟩,trivial⟩)
  ⟨by simp,fun j hj=>by simp only at hj;omega⟩ ?_
 rintro⟨i,o⟩ ⟨hi,ho⟩
 simp only at hi ho
 have hs32:s<32:=aa
 have ha:=fB (N:=R) (i:=i)
 have hb':=fB (N:=R) (i:=i+1)
 refine az.bU hT gB hm 60 p7 Vg ah ?_
 have w1:i64.wrap ((i:Int)+1)=if i<l then((i+1:Nat):Int)else i64.wrap ((i:Int)+1):=by
  split
  ·exact gl aa aa
  ·rfl
 simp only[ag.all,aC,bI,bR,bS,Nat.add_zero,beq_iff_eq]
 have next:∀{s':aP} {v:Int},i<l->v=((aG (R/2^s) i:Nat):Int)->bJ p7 s'=some (Bh (aG R) l n (i+1) 7,[(7,⟨true,true,1,l,fun j=>if j=i then .int .u32 v else aF o j⟩)])->
   ∃p:Nat×(Nat->Nat),(∃ρ,Le c0 ρ s' ⟨aH p7 (Bh (aG R) l n p.1 7),eZ 7 l p.2,8⟩)/\(p.1<=l/\∀j,j<p.1->p.2 j=aG (R/2^s) j)/\l-p.1<l-i:=by
  intro s' v hil hv1 hv
  refine⟨(i+1,cX o i (aG (R/2^s) i)),rN (fC hv rfl ?_) (h0 _) rfl (jw aa),⟨by simp only;omega,fun j hj=>?_⟩,by simp only;omega⟩
  ·simp only[eZ]
   congr 3
   funext j
   exact jC hv1 j
  ·simp only at hj ⊢
   unfold cX
   split
   ·rename_i h;rw[h]
   ·exact ho j aa
 refine⟨fun hb=>?_,fun hb s' hv=>gR ?_⟩
 ·have hil:i<l:=aa
  rw[if_pos hil]at w1
  rw[w1,hmd]
  have hf:∀x:Nat,(x:Int).fdiv (2^min ((s:Int).toNat) u64.bits)=((x/2^s:Nat):Int):=fun x=>by
   have:min ((s:Int).toNat) u64.bits=s:=by
    have:u64.bits=64:=rfl
    omega
   rw[this,Int.fdiv_eq_ediv_of_nonneg _ (by exact Int.le_of_lt (Int.pow_pos (by decide)))]
   simp
  have wa:u64.wrap (aG R i:Int)=((aG R i:Nat):Int):=cR aa aa
  have gi:u64.wrap ((BitVec.ofInt u64.bits (u64.wrap (aG R i:Int))|||BitVec.ofInt u64.bits (u64.wrap (u64.wrap (aG R (i+1):Int)*2^min (Int.toNat 32) u64.bits))).toNat:Int)=((aG R (i+1)*4294967296+aG R i:Nat):Int):=by
   rw[BitVec.or_comm,cR (x:=(aG R (i+1):Int)) aa aa]
   exact xN hb' ha
  simp only[bS]
  refine⟨aa,fun h1=>⟨⟨aa,aa⟩,⟨aa,aa,aa,aa⟩,fun s' hv=>next hil ?_ hv⟩,fun h1=>⟨⟨aa,aa,aa,aa⟩,fun s' hv=>next hil ?_ hv⟩⟩
  ·rw[gi]
   have:=hf (aG R (i+1)*4294967296+aG R i)
   simp only[bS]at this
   rw[this,lE,aaS ha hb' hs32,Av hs32]
  ·rw[wa]
   have:=hf (aG R i)
   simp only[bS]at this
   have hd:=Nat.div_le_self (aG R i) (2^s)
   rw[this,lE,Av hs32,kO (A:=R) (i:=i+1) (eP.2 (Nat.lt_of_lt_of_le hRl (Nat.pow_le_pow_right aa aa))),Nat.zero_mod,Nat.zero_mul,Nat.add_zero,Nat.mod_eq_of_lt aa]
 ·have hil:i=l:=aa
  show aJ P c0 f191.ntmps (behind (aK f191) [1,1,1,1,0,1]) s' _
  refine aJ.mw hT gB hm 60 hv (h0 _) rfl (jw aa) aeM ah ah ?_
  simp only[ag.all,aC,Nat.add_zero,lQ]
  refine⟨⟨jg fun j hj=>?_,aa⟩,fG (congrArg AV.mag ?_)⟩
  ·rw[ho j aa];exact fB
  ·rw[val_congr (y:=aG (R/2^s)) fun j hj=>ho j aa,rH (Nat.lt_of_le_of_lt (Nat.div_le_self _ _) hRl),hR,hnk,Nat.div_div_eq_div_mul]
def Me:Spec:=cD fun l=>match l with
 |[a,.int .i64 n]=>match kB a with
  |some A=>some (aO (.mag (A/2^n.toNat)) [nl A<2^40,0<=n,n<2^62])
  |none=>none
 |_=>none
theorem Vh:bp P Me 191:=
 Gb (g:=fun A n=>.mag (A/2^n.toNat)) (l:=fun A=>[nl A<2^40]) (m:=2^62) fun {A n} h hn K=>by
  have:=aaY (A:=A) (n:=n) h aa K
  simpa using this
end Go.Am.B
