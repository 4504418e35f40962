/- rational.add, Add, Sub, Mul, Quo. -/
import Derived.Test.YtfjlccdmhpdiiaaGreatY5
set_option linter.unusedVariables false
noncomputable section
namespace Go.Am.B
open Go Go.Am.N AV Proofs.Tryz IntKind
theorem Qs {b:Bool} {N D k:Nat} (hk:k≠0):sQ b (N*k) (D*k)=sQ b N D:=by
 unfold sQ
 have:gx b (N*k)=gx b N*(k:Int):=by unfold gx;split<;>simp[Int.neg_mul]
 rw[this,Rat.mkRat_mul_right hk]
theorem FJ {a c:Int} {d:Nat} (hd:d≠0):mkRat a d+mkRat c d=mkRat (a+c) d:=by
 rw[Rat.mkRat_add_mkRat _ _ hd hd,<-Int.add_mul,Rat.mkRat_mul_right hd]
theorem GL {s:Bool} {X Y D:Nat} (hD:D≠0):sQ s X D+sQ s Y D=sQ s (X+Y) D:=by
 unfold sQ
 rw[FJ hD]
 congr 1
 unfold gx;split<;>simp<;>omega
theorem DG {b s:Bool} {X Y D:Nat} (hD:D≠0) (hb:b≠s) (h:Y<=X):sQ b X D+sQ s Y D=sQ b (X-Y) D:=by
 unfold sQ
 rw[FJ hD]
 congr 1
 unfold gx
 cases b<;>cases s<;>simp at hb ⊢<;>omega
theorem Dc {b s:Bool} {X Y D:Nat} (hD:D≠0) (hb:b≠s) (h:X<=Y):sQ b X D+sQ s Y D=sQ s (Y-X) D:=by
 unfold sQ
 rw[FJ hD]
 congr 1
 unfold gx
 cases b<;>cases s<;>simp at hb ⊢<;>omega
theorem WB {b s:Bool} {X Y:Nat}:gx b X*gx s Y=gx (b !=s) (X*Y):=by
 unfold gx
 cases b<;>cases s<;>simp[Int.neg_mul,Int.mul_neg]
theorem Eo {b s:Bool} {X Y D E:Nat}:sQ b X D*sQ s Y E=sQ (b !=s) (X*Y) (D*E):=by
 unfold sQ
 rw[Rat.mkRat_mul_mkRat,WB]
theorem qg {q:Rat} (h:eJ q=true):q.num.natAbs<4294967296/\q.den<4294967296:=by
 unfold eJ at h
 simpa using h
theorem oQ {a b:Nat} (ha:a<4294967296) (hb:b<4294967296):u64.wrap ((a:Int)*(b:Int))=((a*b:Nat):Int)/\a*b<=18446744065119617025:=by
 have h:=Nat.mul_le_mul (show a<=4294967295 by omega) (show b<=4294967295 by omega)
 refine⟨?_,h⟩
 rw[show(a:Int)*(b:Int)=((a*b:Nat):Int) by simp,cr aa aa]
section add
variable {q r:Rat} {n m:Nat} {s:Bool}
theorem af8 {f:Nat->AV} (hf:∀i,i<1->keys (f i)=[]) {b:Bool} {N D:Nat}:iF 8193 (oR b N D r m f):=⟨⟨aa,hf⟩,⟨aa,fun _ _=>rfl⟩,⟨aa,fun _ _=>rfl⟩,trivial⟩
theorem Az:iF 8193 (nM q r n m):=⟨⟨aa,fun _ _=>rfl⟩,⟨aa,fun _ _=>rfl⟩,⟨aa,fun _ _=>rfl⟩,trivial⟩
theorem Gp (q r:Rat) (s:Bool):q+sQ s r.num.natAbs r.den=sQ (decide (q<0)) (q.num.natAbs*r.den) (q.den*r.den)+sQ s (r.num.natAbs*q.den) (q.den*r.den):=by
 rw[Qs r.den_nz,lU,Nat.mul_comm q.den,Qs q.den_nz]
theorem KO {c:Ctx} (h0:∀nx k x,c.k0 k=some x->k<nx) (hq:Sz q n) (hr:Sz r m) (hn:n<2^42) (hm':m<2^42) {s':aK} (hv:bA fz s'=some (jc s,nM q r n m)):
  ax P c f166.ntmps oB s' (dH c (Fin T f166 (.rat (q+sQ s r.num.natAbs r.den) (n+m+1)))):=by
 obtain⟨a1,a2,a3⟩:=Sz.jJ hq aa
 obtain⟨b1,b2,b3⟩:=Sz.jJ hr aa
 have d1:=q.den_nz
 have d2:=r.den_nz
 have hz:Sz (q+sQ s r.num.natAbs r.den) (n+m+1):=hq.add (B0 d2 hr.1 hr.2)
 have bx:∀{a b:Nat},a<2^n->b<2^m->nl (a*b)<2^40:=fun ha hb=>kT (n:=n+m) (by rw[Nat.pow_add];exact Nat.mul_lt_mul'' ha hb) aa
 have last:∀{s':aK} {X Y D k:Nat},k<2^43->X<2^k->Y<2^k->nl D<2^40->D≠0->q+sQ s r.num.natAbs r.den=sQ (decide (q<0)) X D+sQ s Y D->bA (fz++[15,16,17]) s'=some (jc s++[.mag X,.mag Y,.mag D],nM q r n m)->
   aG P c f166.ntmps [part oB [1,1]] s' (dH c (Fin T f166 (.rat (q+sQ s r.num.natAbs r.den) (n+m+1)))):=by
  intro s' X Y D k hk hX2 hY2 hD hD0 heq hv
  have hX:=kT hX2 aa
  have hY:=kT hY2 aa
  have hXY:nl (X+Y)<2^40:=kT (n:=k+1) (by rw[Nat.pow_succ];omega) aa
  refine aG.kU hT mP hm 60 hv (h0 _) rfl Az S3 ah rfl ?_
  simp only[ag.all,az,beq_iff_eq,beq_eq_false_iff_ne,ne_eq]
  refine⟨aa,fun hb=>⟨⟨hX,hY,hXY,hD,aa⟩,aa,dU ?_ hz⟩,fun hb=>⟨⟨hX,hY⟩,fun hc=>⟨⟨aa,Nat.lt_of_le_of_lt (iI (Nat.sub_le _ _)) hX,hD,aa⟩,aa,dU ?_ hz⟩,fun hc=>⟨⟨hY,hX⟩,⟨Nat.lt_of_le_of_lt (iI (Nat.sub_le _ _)) hY,hD,aa⟩,aa,dU ?_ hz⟩⟩⟩
  ·rw[heq,hb,GL hD0]
  ·rw[heq,DG hD0 hb (by split at hc<;>omega)]
  ·rw[heq,Dc hD0 hb (by split at hc<;>omega)]
 have mulb:∀{a b:Nat},a<2^n->b<2^m->a*b<2^(n+m):=fun ha hb=>by rw[Nat.pow_add];exact Nat.mul_lt_mul'' ha hb
 refine ax.hole [1,1] ah (aG.fS hT mP hm 60 hv (h0 _) rfl Az (fz++[15,16,17]) UJ ah rfl ?_)
 simp only[ag.all,az,Bool.not_eq_true',bt,Bool.not_eq_false',bk]
 have fin:∀{s':aK} {R:AV},aG P c f166.ntmps [part oB [1,1]] s' (dH c (Fin T f166 R))->ax P c f166.ntmps (part oB [1,1]) s' (eo (fun s''=>aG P c f166.ntmps (behind oB [1,1]) s'' (dH c (Fin T f166 R))) (dH c (Fin T f166 R))):=
  fun h=>ax.mono h fun e s' h=>by cases e<;>exact h
 refine⟨⟨aa,aa,aa⟩,⟨aa,aa,a3,b3⟩,fun hb=>⟨⟨aa,a1,b2,aa,b1,a2,aa,a2,b2⟩,fun s' hv=>cJ (fin (last (k:=n+m) aa (mulb hq.1 hr.2) ?_ (bx hq.2 hr.2) (Nat.mul_ne_zero d1 d2) (Gp q r s) hv))⟩,fun hb s' hv=>cJ (fin (last (k:=n+m) aa (Nat.lt_of_lt_of_le hq.1 (Nat.pow_le_pow_right aa aa)) (Nat.lt_of_lt_of_le hr.1 (Nat.pow_le_pow_right aa aa)) a2 d1 ?_ hv))⟩
 ·rw[Nat.mul_comm];exact mulb hq.2 hr.1
 ·have:q.den=r.den:=by split at hb<;>split at hb<;>omega
  rw[<-this,lU]
theorem ahi {c:Ctx} (h0:∀nx k x,c.k0 k=some x->k<nx) (hq:Sz q n) (hr:Sz r m) (hn:n<2^42) (hm':m<2^42) (h1:eJ q=true) (h2:eJ r=true) {s':aK} {Q:aq->aK->Prop}
  (hv:bA (fz++[7,8,10,11]) s'=some (jc s++[.int .u64 (q.num.natAbs:Nat),.int .u64 (q.den:Nat),.int .u64 (r.num.natAbs:Nat),.int .u64 (r.den:Nat)],nM q r n m))
  (hN:∀s',ax P c f166.ntmps oB s' (dH c (Fin T f166 (.rat (q+sQ s r.num.natAbs r.den) (n+m+1))))->Q .normal s')
  (hR:∀s',dH c (Fin T f166 (.rat (q+sQ s r.num.natAbs r.den) (n+m+1))) .ret s'->Q .ret s'):ax P c f166.ntmps uL s' Q:=by
 have d1:=q.den_nz
 have d2:=r.den_nz
 have hz:Sz (q+sQ s r.num.natAbs r.den) (n+m+1):=hq.add (B0 d2 hr.1 hr.2)
 obtain⟨q1,q2⟩:=qg h1
 obtain⟨r1,r2⟩:=qg h2
 have hval:=Gp q r s
 obtain⟨b,hb⟩:∃b,decide (q<0)=b:=⟨_,rfl⟩
 rw[hb]at hval
 obtain⟨wx,bx⟩:=oQ q1 r2
 obtain⟨wy,by'⟩:=oQ r1 q2
 obtain⟨wd,bd⟩:=oQ q2 r2
 have hd0:q.den*r.den≠0:=Nat.mul_ne_zero d1 d2
 have hk0:c.k0=bG:=by
  funext k
  cases hk:c.k0 k with
  |none=>rfl
  |some x=>have:=h0 0 k x hk;omega
 -- the end by short numbers
 have ret:∀{s':aK} {N D k:Nat} {z:Rat},z=q+sQ s r.num.natAbs r.den->bA fz s'=some (jc s,oR b N D r m fun j=>if j=0 then bp (.rat z k)else .rat 0 1)->Q .ret s':=by
  intro s' N D k z hzv hv
  refine hR _ (xC Su hv (h0 8193) rfl (af8 fun i _=>?_) ⟨show 0<1 by omega,dU hzv hz⟩)
  split<;>rfl
 have back:∀{s':aK},bA fz s'=some (jc s,oR b q.num.natAbs (if q.den=1 then 0 else q.den) r m fun _=>.rat 0 1)->Q .normal s':=by
  intro s' hv
  refine hN _ (ax.ja (dL (vs:=jc s) (ps:=nM q r n m) (nx:=8193) [(0,0),(4096,4096),(8192,8192)] hv hk0 (by simp[jE]) ⟨aL,⟨rfl,oe rfl⟩,⟨rfl,oe rfl⟩,⟨rfl,oe rfl⟩,trivial⟩
   ⟨⟨_,_,rfl,rfl,jR rfl fun i _=>gy rfl⟩,⟨_,_,rfl,rfl,jR rfl fun i _=>gy rfl⟩,⟨_,_,rfl,rfl,jR rfl fun i _=>nS rfl ?_⟩,trivial⟩) ?_)
  ·rw[<-hb];exact KD hq
  ·exact KO h0 hq hr hn hm' (s:=s) rfl
 refine ax.ja (dL (us:=[.bool s,.ptr 0 0 3 0 [],.ptr 4096 0 3 0 [],.ptr 8192 0 3 0 [],.int .u64 (q.num.natAbs:Nat),.int .u64 (q.den:Nat),.int .u64 (r.num.natAbs:Nat),.int .u64 (r.den:Nat)])
   (vs:=[.bool s,.ptr 0 0 3 0 [],.ptr 4096 0 3 0 [],.ptr 8192 0 3 0 [],.int .u64 (q.num.natAbs:Nat),.int .u64 (q.den:Nat),.int .u64 (r.num.natAbs:Nat),.int .u64 (r.den:Nat)]) (os:=nM q r n m) (ps:=oR b q.num.natAbs (if q.den=1 then 0 else q.den) r m fun _=>.rat 0 1) (nx:=8193) [(0,0),(4096,4096),(8192,8192)] hv hk0 (by simp[jE])
  ⟨aL,⟨rfl,oe rfl⟩,⟨rfl,oe rfl⟩,⟨rfl,oe rfl⟩,aL,aL,aL,aL,trivial⟩
  ⟨⟨_,_,rfl,rfl,jR rfl fun i _=>gy rfl⟩,⟨_,_,rfl,rfl,jR rfl fun i _=>gy rfl⟩,⟨_,_,rfl,rfl,jR rfl fun i _=>nS rfl (by rw[<-hb];exact IQ)⟩,trivial⟩) ?_
 have hD0:0<q.den*r.den:=aa
 have eqc:b=s->sQ s (q.num.natAbs*r.den+r.num.natAbs*q.den) (q.den*r.den)=q+sQ s r.num.natAbs r.den:=fun h=>by rw[hval,h,GL hd0]
 have gec:b≠s->r.num.natAbs*q.den<=q.num.natAbs*r.den->sQ b (q.num.natAbs*r.den-r.num.natAbs*q.den) (q.den*r.den)=q+sQ s r.num.natAbs r.den:=fun h h'=>by rw[hval,DG hd0 h h']
 have ltc:b≠s->q.num.natAbs*r.den<=r.num.natAbs*q.den->sQ s (r.num.natAbs*q.den-q.num.natAbs*r.den) (q.den*r.den)=q+sQ s r.num.natAbs r.den:=fun h h'=>by rw[hval,Dc hd0 h h']
 clear hval hv hN hR h1 h2 hb
 generalize q+sQ s r.num.natAbs r.den=V at*
 generalize q.num.natAbs*r.den=X at*
 generalize r.num.natAbs*q.den=Y at*
 generalize q.den*r.den=D at*
 have ws:∀{a b:Nat},b<=a->a<=18446744065119617025->u64.wrap ((a:Int)-(b:Int))=((a-b:Nat):Int):=fun {a b} h1 h2=>by rw[cr aa aa];omega
 cases b<;>cases s
 ·refine ax.bE hT mP hm 60 fz aeW ah ?_
  rw[wx,wy,wd]
  simp only[ag.all,az,beq_iff_eq,bf]
  refine⟨⟨aa,aa,aa⟩,aa,fun hc=>⟨⟨aa,aa,aa⟩,fun s' hv=>ret ?_ hv⟩,fun hc=>⟨aa,aa,fun s' hv=>back hv⟩⟩
  have h:=eq_of_beq (jQ hc)
  have e:(((X:Int)+(Y:Int)+0)%18446744073709551616).toNat=X+Y:=aa
  rw[e];exact eqc rfl
 ·refine ax.bE hT mP hm 60 fz ajq ah ?_
  rw[wx,wy,wd]
  simp only[ag.all,az,beq_iff_eq,bf]
  refine⟨⟨aa,aa,aa⟩,aa,aa,fun hc=>?_,fun hc=>?_⟩
  ·have h:=of_decide_eq_true (jQ hc)
   have h':Y<=X:=aa
   rw[ws h' bx]
   refine⟨⟨aa,aa,aa,aa⟩,fun s' hv=>ret ?_ hv⟩
   rw[bf];exact gec (by simp) h'
  ·have h:=of_decide_eq_false (jQ hc)
   have h':X<=Y:=aa
   rw[ws h' by']
   refine⟨aa,⟨aa,aa,aa⟩,fun s' hv=>ret ?_ hv⟩
   rw[bf];exact ltc (by simp) h'
 ·refine ax.bE hT mP hm 60 fz X8 ah ?_
  rw[wx,wy,wd]
  simp only[ag.all,az,beq_iff_eq,bf]
  refine⟨⟨aa,aa,aa⟩,aa,aa,fun hc=>?_,fun hc=>?_⟩
  ·have h:=of_decide_eq_true (jQ hc)
   have h':Y<=X:=aa
   rw[ws h' bx]
   refine⟨⟨aa,aa,aa,aa⟩,fun s' hv=>ret ?_ hv⟩
   rw[bf];exact gec (by simp) h'
  ·have h:=of_decide_eq_false (jQ hc)
   have h':X<=Y:=aa
   rw[ws h' by']
   refine⟨aa,⟨aa,aa,aa⟩,fun s' hv=>ret ?_ hv⟩
   rw[bf];exact ltc (by simp) h'
 ·refine ax.bE hT mP hm 60 fz VW ah ?_
  rw[wx,wy,wd]
  simp only[ag.all,az,beq_iff_eq,bf]
  refine⟨⟨aa,aa,aa⟩,aa,fun hc=>⟨⟨aa,aa,aa⟩,fun s' hv=>ret ?_ hv⟩,fun hc=>⟨aa,aa,fun s' hv=>back hv⟩⟩
  have h:=eq_of_beq (jQ hc)
  have e:(((X:Int)+(Y:Int)+0)%18446744073709551616).toNat=X+Y:=aa
  rw[e];exact eqc rfl
theorem R4 (hn:n<2^42) (hm':m<2^42) (K:Nat) (pre:aC):aS P 166 K [.rat q n,.rat r m,.bool s] pre (aJ (.rat (q+sQ s r.num.natAbs r.den) (n+m+1)) []):=by
 refine kD fun⟨hq,hr,_⟩=>?_
 have hq:Sz q n:=hq
 have hr:Sz r m:=hr
 refine fX hT Sg rfl aV rfl (fun _ c h0=>?_) K pre
 have long:=fun {s':aK}=>KO (s:=s) (s':=s') h0 hq hr hn hm'
 have fin:∀{s':aK} {R:AV},ax P c f166.ntmps oB s' (dH c (Fin T f166 R))->ax P c f166.ntmps oB s' (eo (fun s''=>aG P c f166.ntmps (behind (aF f166) [1,1]) s'' (dH c (Fin T f166 R))) (dH c (Fin T f166 R))):=
  fun h=>ax.mono h fun e s' h=>by cases e<;>exact h
 refine ax.hole [1,1] ah (aG.chunk 1 (aG.bE hT mP hm 60 fz Tv ah fun s' hv=>cJ ?_))
 show aG P c f166.ntmps [Gi] s' _
 refine aG.kV hv (h0 8193) rfl rfl Az ?_
 refine ax.hole [1,1] ah (aG.bE hT mP hm 60 (fz++[7,8,28]) agh ah ⟨show 0<1 by omega,fun s' hv=>cJ ?_⟩)
 refine ax.cond (b:=.tmp 28) (x:=EO) (y:=.skip) (yP hv rfl rfl) (fun h1=>?_) (fun h1=>ax.skip (by exact fin (long (jG (ls:=fz) (l:=[7,8,28]) (vs:=jc s) hv rfl rfl))))
 simp only[h1,if_true]at hv
 have hv:=jG (ls:=fz++[7,8]) (l:=[28]) (vs:=jc s++[.int .u64 (q.num.natAbs:Nat),.int .u64 (q.den:Nat)]) hv rfl rfl
 refine ax.kV hv (h0 8193) rfl Az ?_
 refine ax.hole [1,1] ah (aG.bE hT mP hm 60 (fz++[7,8,10,11,35]) aeh ah ⟨show 0<1 by omega,fun s' hv=>cJ ?_⟩)
 refine ax.cond (b:=.tmp 35) (x:=uL) (y:=.skip) (yP hv rfl rfl) (fun h2=>?_) (fun h2=>ax.skip (by exact fin (long (jG (ls:=fz) (l:=[7,8,10,11,35]) (vs:=jc s) hv rfl rfl))))
 simp only[h2,if_true]at hv
 exact ahi h0 hq hr hn hm' h1 h2 (jG (ls:=fz++[7,8,10,11]) (l:=[35]) (vs:=jc s++[.int .u64 (q.num.natAbs:Nat),.int .u64 (q.den:Nat),.int .u64 (r.num.natAbs:Nat),.int .u64 (r.den:Nat)]) hv rfl rfl)
  (fun s' h=>by exact fin h) (fun s' h=>by exact h)
end add
end Go.Am.B
namespace Go.Am.B
open Go Go.Am.N AV Proofs.Tryz IntKind
theorem aiv:aW 106 f106:=aT func106
theorem R3:aW 163 f163:=aT func163
theorem aby:aW 145 f145:=aT func145
theorem Ye:aW 146 f146:=aT func146
theorem Z2:aW 221 f221:=aT func221
def O4:Spec:=bY fun l=>match l with
 |[.rat q n,.rat r m,.bool s]=>some (aJ (.rat (q+sQ s r.num.natAbs r.den) (n+m+1)) [n<2^42,m<2^42])
 |_=>none
def Jy:Spec:=bY fun l=>match l with
 |[.rat q n,.rat r m]=>some (aJ (.int .i64 (ep q r)) [n<2^42,m<2^42])
 |_=>none
abbrev Gu:FuncId×Spec:=(197,MV)
def GA:aX:=(166,O4)::(108,Jy)::Gu::(245,J1)::(205,Fs)::(213,FQ)::[]
theorem afv {q r:Rat} {n m:Nat}:bU T GA [] 60 f106 (aF f106) ⟨aQ 0 [.rat q n,.rat r m],[],0⟩=
  let c1:Prop:=0<1;some (ag.aj [c1,c1,c1,n<2^42,m<2^42,c1] (ag.aj [c1] (ag.leaf aq.ret [rat (q+sQ (decide (r<0)) r.num.natAbs r.den) (n+m+1)]))):=ah
theorem VV {q r:Rat} {n m:Nat}:bU T GA [] 60 f163 (aF f163) ⟨aQ 0 [.rat q n,.rat r m],[],0⟩=
  let c1:Prop:=0<1;some (ag.aj [c1,c1,c1,n<2^42,m<2^42,c1] (ag.aj [c1] (ag.leaf aq.ret [rat (q+sQ (!decide (r<0)) r.num.natAbs r.den) (n+m+1)]))):=ah
theorem Xn {q r:Rat} {n m:Nat}:bU T GA [8] 60 f145 (aF f145) ⟨aQ 0 [.rat q n,.rat r m],[],0⟩=
  let c1:Prop:=0<1;some (ag.aj [c1,c1,m<2^42,n<2^42] (ag.fork (decide (ep r q<0)) (ag.aj [c1,c1] (ag.aj [c1,m<2^44,c1] (ag.aj [c1] (ag.leaf aq.ret [rat r m])))) (ag.aj [c1,n<2^44,c1] (ag.aj [c1] (ag.leaf aq.ret [rat q n]))))):=ah
theorem acM {q r:Rat} {n m:Nat}:bU T GA [8] 60 f146 (aF f146) ⟨aQ 0 [.rat q n,.rat r m],[],0⟩=
  let c1:Prop:=0<1;some (ag.aj [c1,c1,m<2^42,n<2^42] (ag.fork (decide (ep r q>0)) (ag.aj [c1,c1] (ag.aj [c1,m<2^44,c1] (ag.aj [c1] (ag.leaf aq.ret [rat r m])))) (ag.aj [c1,n<2^44,c1] (ag.aj [c1] (ag.leaf aq.ret [rat q n]))))):=ah
theorem afk {n:Int}:bU T GA [] 60 f221 (aF f221) ⟨aQ 0 [.int .i64 n],[],0⟩=
  let c1:Rat:=sQ (decide (n<0)) n.natAbs 1;some (ag.aj [-(2:Int)^63<=n,n<2^63,nl n.natAbs<2^40,nl 1<2^40,(0:Nat)<1] (ag.aj [(0:Nat)<1] (ag.leaf aq.ret [rat c1 (cW c1)]))):=ah
theorem RW {q r:Rat} {n m:Nat}:bU T GQ [20,23,34,47,49,56,63,76] 60 f108 (aF f108) ⟨aQ 0 [.rat q n,.rat r m],[],0⟩=
  let c14:ag (List AV):=ag.leaf aq.ret [int .i64 (0:Int)];let c13:Nat:=q.num.natAbs;let c12:Nat:=r.num.natAbs;let c11:ag (List AV):=ag.leaf aq.ret [int .i64 (1:Int)];let c10:Bool:=decide (q<0);let c9:ag (List AV):=ag.leaf aq.ret [int .i64 (-1:Int)];let c8:Nat:=if r.den=1 then 0 else r.den;let c7:Nat:=if q.den=1 then 0 else q.den;let c6:Nat:=2^40;let c5:Prop:=0<1;let c15:Int:=cZ (c13*r.den) (c12*q.den);let c4:Int:=u64.wrap ((↑(if eJ q=true then c13 else 0):Int)*(↑(if eJ r=true then r.den else 0):Int));let c3:Int:=u64.wrap ((↑(if eJ r=true then c12 else 0):Int)*(↑(if eJ q=true then q.den else 0):Int));let c2:ag (List AV):=ag.aj [c5,c5,nl c13<c6,nl r.den<c6,c5,c5,nl c12<c6,nl q.den<c6,nl (c13*r.den)<c6,nl (c12*q.den)<c6] (ag.aj [c5] (ag.fork c10 (ag.leaf aq.ret [int .i64 (i64.wrap ((0:Int)-c15))]) (ag.leaf aq.ret [int .i64 c15])));let c1:ag (List AV):=ag.fork (decide (c4<c3)) (ag.aj [c5] (ag.fork c10 c11 c9)) (ag.fork (decide (c4>c3)) (ag.aj [c5] (ag.fork c10 c9 c11)) (ag.aj [c5] (ag.fork c10 c14 c14)));some (ag.aj [c5,n<2^44,c5,m<2^44] (ag.fork (fQ q !=fQ r) (ag.fork (decide (fQ q<fQ r)) c9 c11) (ag.aj [c5] (ag.aj [c5,c5,nl c7<c6,nl c8<c6] (ag.fork (decide (c7=c8)) (ag.aj [c5,c5,nl c13<c6,nl c12<c6] (ag.aj [c5] (ag.fork c10 (ag.leaf aq.ret [int .i64 (i64.wrap ((0:Int)-cZ c13 c12))]) (ag.leaf aq.ret [int .i64 (cZ c13 c12)])))) (ag.aj [c5] (ag.fork (eJ q) (ag.aj [eJ q=true] (ag.fork (bif true then eJ r else false) c1 c2)) (ag.aj [eJ q=false] (ag.fork false c1 c2))))))))):=ah
theorem WI:aU P O4 166:=by
 refine cF fun K args r hk hs _=>?_
 split at hs
 ·simp only[ay]at hs
  subst hs
  exact fun need=>R4 need.1 need.2 K [] trivial
 ·simp at hs
theorem Bk {q r:Rat} (h:fQ q≠fQ r):ep q r=if fQ q<fQ r then-1 else 1:=by
 unfold fQ ep at*
 grind
theorem abX {a b:Nat}:-cZ a b=cZ b a:=by unfold cZ;split<;>split<;>omega
theorem Nh {a b k:Nat} (hk:0<k):cZ (a*k) (b*k)=cZ a b:=by
 unfold cZ
 simp only[Nat.mul_lt_mul_right hk]
theorem Bb {a b:Nat}:i64.wrap (0-cZ a b)=-cZ a b:=by
 have:cZ a b=-1\/cZ a b=0\/cZ a b=1:=by unfold cZ;split;exact .inl rfl;split;exact .inr (.inr rfl);exact .inr (.inl rfl)
 rcases this with h|h|h<;>rw[h]<;>rfl
theorem o7 {q r:Rat} (h:fQ q=fQ r):ep q r=if q<0 then-cZ (q.num.natAbs*r.den) (r.num.natAbs*q.den)else cZ (q.num.natAbs*r.den) (r.num.natAbs*q.den):=by
 have h1:q<0↔r<0:=by unfold fQ at h;grind
 have e1:∀{a b:Nat},(-(a:Int))*(b:Int)=-((a*b:Nat):Int):=fun {a b}=>by simp[Int.neg_mul]
 have e2:∀{a b:Nat},(a:Int)*(b:Int)=((a*b:Nat):Int):=fun {a b}=>by simp
 unfold ep
 by_cases hq:q<0
 ·have hr:=h1.1 hq
  have q1:q.num=-(q.num.natAbs:Int):=by have:=jv.1 hq;omega
  have r1:r.num=-(r.num.natAbs:Int):=by have:=jv.1 hr;omega
  have l1:q<r↔r.num.natAbs*q.den<q.num.natAbs*r.den:=by
   rw[Rat.lt_iff]
   conv=>lhs;rw[q1,r1,e1,e1]
   omega
  have l2:r<q↔q.num.natAbs*r.den<r.num.natAbs*q.den:=by
   rw[Rat.lt_iff]
   conv=>lhs;rw[q1,r1,e1,e1]
   omega
  rw[if_pos hq,abX]
  unfold cZ
  simp only[l1,l2]
 ·have hr:¬r<0:=fun h=>hq (h1.2 h)
  have q1:q.num=(q.num.natAbs:Int):=by have:¬q.num<0:=fun h=>hq (jv.2 h);omega
  have r1:r.num=(r.num.natAbs:Int):=by have:¬r.num<0:=fun h=>hr (jv.2 h);omega
  have l1:q<r↔q.num.natAbs*r.den<r.num.natAbs*q.den:=by
   rw[Rat.lt_iff]
   conv=>lhs;rw[q1,r1,e2,e2]
   omega
  have l2:r<q↔r.num.natAbs*q.den<q.num.natAbs*r.den:=by
   rw[Rat.lt_iff]
   conv=>lhs;rw[q1,r1,e2,e2]
   omega
  rw[if_neg hq]
  unfold cZ
  simp only[l1,l2]
theorem G5 {q r:Rat} {n m:Nat} (hn:n<2^42) (hm':m<2^42) (K:Nat) (pre:aC):aS P 108 K [.rat q n,.rat r m] pre (aJ (.int .i64 (ep q r)) []):=by
 refine kD fun⟨hq,hr,_⟩=>?_
 have hq:Sz q n:=hq
 have hr:Sz r m:=hr
 obtain⟨a1,a2,a3⟩:=Sz.jJ hq aa
 obtain⟨b1,b2,b3⟩:=Sz.jJ hr aa
 have d1:=q.den_nz
 have d2:=r.den_nz
 have m1:nl (q.num.natAbs*r.den)<2^40:=kT (n:=n+m) (by rw[Nat.pow_add];exact Nat.mul_lt_mul'' hq.1 hr.2) aa
 have m2:nl (r.num.natAbs*q.den)<2^40:=kT (n:=m+n) (by rw[Nat.pow_add];exact Nat.mul_lt_mul'' hr.1 hq.2) aa
 refine bX hT mP hm SN rfl aV rfl 60 RW (fun _=>?_) K pre
 simp only[ag.all,az,bne_iff_ne,ne_eq,bne_eq_false_iff_eq]
 refine⟨⟨aa,aa,aa,aa⟩,fun hs=>⟨fun hl=>bS ?_,fun hl=>bS ?_⟩,fun hs=>⟨aa,⟨aa,aa,a3,b3⟩,fun hd=>⟨⟨aa,aa,a1,b1⟩,aa,fun hc=>bS ?_,fun hc=>bS ?_⟩,fun hd=>⟨aa,fun hp=>⟨hp,fun hp2=>?_,fun hp2=>⟨⟨aa,aa,a1,b2,aa,aa,b1,a2,m1,m2⟩,aa,fun hc=>bS ?_,fun hc=>bS ?_⟩⟩,fun hp=>⟨hp,fun h=>by simp at h,fun _=>⟨⟨aa,aa,a1,b2,aa,aa,b1,a2,m1,m2⟩,aa,fun hc=>bS ?_,fun hc=>bS ?_⟩⟩⟩⟩⟩
 ·rw[Bk hs,if_pos (of_decide_eq_true hl)]
 ·rw[Bk hs,if_neg (of_decide_eq_false hl)]
 ·have hd:=of_decide_eq_true hd
  have e:q.den=r.den:=by split at hd<;>split at hd<;>omega
  rw[o7 hs,if_pos (of_decide_eq_true hc),e,Nh aa,Bb]
 ·have hd:=of_decide_eq_true hd
  have e:q.den=r.den:=by split at hd<;>split at hd<;>omega
  rw[o7 hs,if_neg (of_decide_eq_false hc),e,Nh aa]
 ·have hp2:=jQ hp2
  obtain⟨q1,q2⟩:=qg hp
  obtain⟨r1,r2⟩:=qg hp2
  rw[if_pos hp,if_pos hp2,if_pos hp2,if_pos hp,(oQ q1 r2).1,(oQ r1 q2).1]
  have hcs:=o7 hs
  generalize q.num.natAbs*r.den=X at*
  generalize r.num.natAbs*q.den=Y at*
  unfold cZ at hcs
  refine⟨fun h1=>⟨aa,fun hc=>bS ?_,fun hc=>bS ?_⟩,fun h1=>⟨fun h2=>⟨aa,fun hc=>bS ?_,fun hc=>bS ?_⟩,fun h2=>⟨aa,fun hc=>bS ?_,fun hc=>bS ?_⟩⟩⟩
  all_goals rw[hcs]
  ·rw[if_pos (of_decide_eq_true hc),if_pos (by have:=of_decide_eq_true h1;omega)];rfl
  ·rw[if_neg (of_decide_eq_false hc),if_pos (by have:=of_decide_eq_true h1;omega)]
  ·rw[if_pos (of_decide_eq_true hc),if_neg (by have:=of_decide_eq_false h1;omega),if_pos (by have:=of_decide_eq_true h2;omega)]
  ·rw[if_neg (of_decide_eq_false hc),if_neg (by have:=of_decide_eq_false h1;omega),if_pos (by have:=of_decide_eq_true h2;omega)]
  ·rw[if_pos (of_decide_eq_true hc),if_neg (by have:=of_decide_eq_false h1;omega),if_neg (by have:=of_decide_eq_false h2;omega)];rfl
  ·rw[if_neg (of_decide_eq_false hc),if_neg (by have:=of_decide_eq_false h1;omega),if_neg (by have:=of_decide_eq_false h2;omega)]
 ·rw[o7 hs,if_pos (of_decide_eq_true hc),Bb]
 ·rw[o7 hs,if_neg (of_decide_eq_false hc)]
 ·rw[o7 hs,if_pos (of_decide_eq_true hc),Bb]
 ·rw[o7 hs,if_neg (of_decide_eq_false hc)]
theorem ajj:aU P Jy 108:=by
 refine cF fun K args r hk hs _=>?_
 split at hs
 ·simp only[ay]at hs
  subst hs
  exact fun need=>G5 need.1 need.2 K [] trivial
 ·simp at hs
theorem aiZ:aU P Gu.2 Gu.1:=TP
theorem wZ:bq P GA:=aI WI (aI ajj (aI aiZ (aI Xp (aI QG (aI Om bB)))))
section ops
variable {q r:Rat} {n m:Nat}
theorem LO (hn:n<2^42) (hm':m<2^42) (K:Nat):aS P 106 K [.rat q n,.rat r m] [] (aJ (.rat (q+r) (n+m+1)) []):=by
 refine bX hT wZ hm aiv rfl aV rfl 60 afv (fun _=>?_) K []
 simp only[ag.all,az,lU]
 exact⟨⟨aa,aa,aa,hn,hm',aa⟩,aa,.refl _⟩
theorem R5 (r:Rat):sQ (!decide (r<0)) r.num.natAbs r.den=-r:=by
 have h:=lU r
 conv=>rhs;rw[<-h]
 unfold sQ
 rw[Rat.neg_mkRat]
 congr 1
 unfold gx
 by_cases h:r<0<;>simp[h]
theorem Ni (hn:n<2^42) (hm':m<2^42) (K:Nat):aS P 163 K [.rat q n,.rat r m] [] (aJ (.rat (q-r) (n+m+1)) []):=by
 refine bX hT wZ hm R3 rfl aV rfl 60 VV (fun _=>?_) K []
 simp only[ag.all,az,R5]
 exact⟨⟨aa,aa,aa,hn,hm',aa⟩,aa,dX (by rw[Rat.sub_eq_add_neg])⟩
def fJ (q r:Rat):Rat:=if r<q then r else q
def ff (q r:Rat):Rat:=if q<r then r else q
theorem rH {q r:Rat}:ep q r<0↔q<r:=by unfold ep;grind
theorem uk {q r:Rat}:ep q r>0↔r<q:=by unfold ep;grind
theorem Zt (hn:n<2^42) (hm':m<2^42) (K:Nat):aS P 145 K [.rat q n,.rat r m] [] (aJ (.rat (fJ q r) (max n m)) []):=by
 refine bX hT wZ hm aby rfl aV rfl 60 Xn (fun _=>?_) K []
 simp only[ag.all,az,bk,bt,rH]
 refine⟨⟨aa,aa,hm',hn⟩,fun h=>⟨⟨aa,aa⟩,⟨aa,aa,aa⟩,aa,?_⟩,fun h=>⟨⟨aa,aa,aa⟩,aa,?_⟩⟩
 ·unfold fJ;rw[if_pos h];exact ey (Nat.le_max_right _ _)
 ·unfold fJ;rw[if_neg h];exact ey (Nat.le_max_left _ _)
theorem Va (hn:n<2^42) (hm':m<2^42) (K:Nat):aS P 146 K [.rat q n,.rat r m] [] (aJ (.rat (ff q r) (max n m)) []):=by
 refine bX hT wZ hm Ye rfl aV rfl 60 acM (fun _=>?_) K []
 simp only[ag.all,az,bk,bt,uk]
 refine⟨⟨aa,aa,hm',hn⟩,fun h=>⟨⟨aa,aa⟩,⟨aa,aa,aa⟩,aa,?_⟩,fun h=>⟨⟨aa,aa,aa⟩,aa,?_⟩⟩
 ·unfold ff;rw[if_pos h];exact ey (Nat.le_max_right _ _)
 ·unfold ff;rw[if_neg h];exact ey (Nat.le_max_left _ _)
theorem Xd {n:Int}:sQ (decide (n<0)) n.natAbs 1=(n:Rat):=by
 unfold sQ
 have:gx (decide (n<0)) n.natAbs=n:=by unfold gx;by_cases h:n<0<;>simp[h]<;>omega
 rw[this,Rat.mkRat_one]
theorem El {n:Int}:Sz (n:Rat) (max 1 (bN n.natAbs)):=by
 refine⟨?_,?_⟩
 ·rw[Rat.num_intCast]
  exact Nat.lt_of_lt_of_le (jr.1 bz) (Nat.pow_le_pow_right aa (Nat.le_max_right _ _))
 ·rw[Rat.den_intCast]
  exact Nat.lt_of_lt_of_le (show 1<2^1 by omega) (Nat.pow_le_pow_right aa (Nat.le_max_left _ _))
theorem Hw {n:Int} (h1:-2^63<=n) (h2:n<2^63) (K:Nat):aS P 221 K [.int .i64 n] [] (aJ (.rat (n:Rat) (max 1 (bN n.natAbs))) []):=by
 refine bX hT wZ hm Z2 rfl aV rfl 60 afk (fun _=>?_) K []
 simp only[ag.all,az,Xd]
 exact⟨⟨h1,h2,kT (n:=64) aa aa,by decide,aa⟩,aa,dU rfl El⟩
theorem NA (hn:n<2^42) (hm':m<2^42) (K:Nat):aS P 173 K [.rat q n,.rat r m] [] (aJ (.rat (q*r) (n+m)) []):=by
 refine kD fun⟨hq,hr,_⟩=>?_
 have hq:Sz q n:=hq
 have hr:Sz r m:=hr
 obtain⟨a1,a2,a3⟩:=Sz.jJ hq aa
 obtain⟨b1,b2,b3⟩:=Sz.jJ hr aa
 have d1:=q.den_nz
 have d2:=r.den_nz
 have m1:nl (q.num.natAbs*r.num.natAbs)<2^40:=kT (n:=n+m) (by rw[Nat.pow_add];exact Nat.mul_lt_mul'' hq.1 hr.1) aa
 have m2:nl (q.den*r.den)<2^40:=kT (n:=n+m) (by rw[Nat.pow_add];exact Nat.mul_lt_mul'' hq.2 hr.2) aa
 have hz:=hq.mul hr
 have hv:sQ (decide (q<0)!=decide (r<0)) (q.num.natAbs*r.num.natAbs) (q.den*r.den)=q*r:=by rw[<-Eo,lU,lU]
 have hzero:q=0\/r=0->bh (.agg [.bool false,.mag 0,.mag 0]) (.rat (q*r) (n+m)):=by
  intro h
  have e:q*r=0:=by rcases h with h|h<;>subst h<;>simp
  obtain⟨k,hk⟩:∃k,n+m=k+1:=⟨n+m-1,by have:=hq.pos;omega⟩
  rw[e,hk];exact mM
 refine bX hT mP hm aa3 rfl aV rfl 60 TY (fun _=>?_) K []
 have hlong:(ag.aj
         [(0:Nat)<1,(0:Nat)<1,(0:Nat)<1,(0:Nat)<1,nl q.num.natAbs<2^40,nl r.num.natAbs<2^40,(0:Nat)<1,(0:Nat)<1,nl q.den<2^40,nl r.den<2^40,nl (q.num.natAbs*r.num.natAbs)<2^40,nl (q.den*r.den)<2^40,(0:Nat)<1]
         (ag.aj [(0:Nat)<1]
          (ag.leaf aq.ret
           [AV.rat (sQ (decide (q<0)!=decide (r<0)) (q.num.natAbs*r.num.natAbs) (q.den*r.den))
             (cW (sQ (decide (q<0)!=decide (r<0)) (q.num.natAbs*r.num.natAbs) (q.den*r.den)))]))).all fun _ us=>fK us (.rat (q*r) (n+m)):=by
  simp only[ag.all,az]
  exact⟨⟨aa,aa,aa,aa,a1,b1,aa,aa,a2,b2,m1,m2,aa⟩,aa,dU hv hz⟩
 refine⟨fun hb=>⟨⟨show 0<1 by omega,hb⟩,fun _=>⟨show 0<1 by omega,show 0<1 by omega,hzero (.inl ?_)⟩,fun h=>by simp at h⟩,fun hb=>⟨⟨show 0<1 by omega,hb,show 0<1 by omega⟩,fun hc=>⟨show 0<1 by omega,show 0<1 by omega,hzero (.inr ?_)⟩,fun hc=>⟨show 0<1 by omega,fun h1=>⟨show 0<1 by omega,fun h2=>?_,fun h2=>hlong⟩,fun h1=>hlong⟩⟩⟩
 ·have:=eq_of_beq hb
  exact pW.1 (j5.1 aa)
 ·have:=eq_of_beq (jb hc)
  exact pW.1 (j5.1 aa)
 ·obtain⟨q1,q2⟩:=qg h1
  obtain⟨r1,r2⟩:=qg h2
  obtain⟨wx,bx⟩:=oQ q1 r1
  obtain⟨wd,bd⟩:=oQ q2 r2
  have hd0:q.den*r.den≠0:=Nat.mul_ne_zero d1 d2
  rw[if_pos h1,if_pos h2,if_pos h1,if_pos h2,wx,wd]
  simp only[ag.all,az,bf]
  exact⟨⟨aa,aa,aa,aa,aa⟩,aa,dU hv hz⟩
theorem JJ (q r:Rat) (hr:r≠0):sQ (decide (q<0)!=decide (r<0)) (q.num.natAbs*r.den) (q.den*r.num.natAbs)=q/r:=by
 have hn:r.num≠0:=fun h=>hr (Rat.num_eq_zero.1 h)
 have hi:r⁻¹=sQ (decide (r<0)) r.den r.num.natAbs:=by
  rw[<-lU r⁻¹]
  have e1:r⁻¹.num.natAbs=r.den:=by rw[Rat.num_inv,Int.natAbs_mul,Int.natAbs_natCast,Int.natAbs_sign_of_ne_zero hn,Nat.one_mul]
  have e2:r⁻¹.den=r.num.natAbs:=by rw[Rat.den_inv,if_neg hn]
  have e3:decide (r⁻¹<0)=decide (r<0):=by
   rw[decide_eq_decide,jv,jv,Rat.num_inv]
   have hd:=r.den_nz
   have hd':(0:Int)<(r.den:Int):=aa
   rcases Int.lt_trichotomy r.num 0 with h|h|h
   ·rw[Int.sign_eq_neg_one_of_neg h];omega
   ·exact absurd h hn
   ·rw[Int.sign_eq_one_of_pos h];omega
  rw[e1,e2,e3]
 rw[Rat.div_def,hi]
 conv=>rhs;rw[<-lU q]
 rw[Eo]
theorem DD (hn:n<2^42) (hm':m<2^42) (K:Nat):aS P 174 K [.rat q n,.rat r m] [] (aJ (.tuple [.rat (q/r) (n+m),.int .i64 (if r=0 then 3 else 0)]) []):=by
 refine kD fun⟨hq,hr,_⟩=>?_
 have hq:Sz q n:=hq
 have hr:Sz r m:=hr
 obtain⟨a1,a2,a3⟩:=Sz.jJ hq aa
 obtain⟨b1,b2,b3⟩:=Sz.jJ hr aa
 have d1:=q.den_nz
 have d2:=r.den_nz
 have m1:nl (q.num.natAbs*r.den)<2^40:=kT (n:=n+m) (by rw[Nat.pow_add];exact Nat.mul_lt_mul'' hq.1 hr.2) aa
 have m2:nl (q.den*r.num.natAbs)<2^40:=kT (n:=n+m) (by rw[Nat.pow_add];exact Nat.mul_lt_mul'' hq.2 hr.1) aa
 have hz:=hq.div hr
 have sg:∀{x:Rat},fQ x=0↔x=0:=by intro x;unfold fQ;grind
 refine bX hT mP hm YW rfl aV rfl 60 aeA (fun _=>?_) K []
 refine⟨⟨show 0<1 by omega,show m<2^44 by omega⟩,fun hb=>⟨show 0<1 by omega,show 0<1 by omega,?_,?_,trivial⟩,fun hb=>⟨show 0<1 by omega,?_⟩⟩
 ·have h0:r=0:=sg.1 (eq_of_beq hb)
  have e:q/r=0:=by rw[h0,Rat.div_def,Rat.inv_zero,Rat.mul_zero]
  obtain⟨k,hk⟩:∃k,n+m=k+1:=⟨n+m-1,by have:=hq.pos;omega⟩
  rw[e,hk];exact mM
 ·have h0:r=0:=sg.1 (eq_of_beq hb)
  exact bS (by rw[if_pos h0])
 have h0:r≠0:=fun h=>by
  rw[h]at hb
  simp[fQ]at hb
 have hv:=JJ q r h0
 have he:bh (.int .i64 0) (.int .i64 (if r=0 then 3 else 0)):=bS (by rw[if_neg h0])
 have hlong:(ag.aj
         [(0:Nat)<1,(0:Nat)<1,(0:Nat)<1,(0:Nat)<1,nl q.num.natAbs<2^40,nl r.den<2^40,(0:Nat)<1,(0:Nat)<1,nl q.den<2^40,nl r.num.natAbs<2^40,nl (q.num.natAbs*r.den)<2^40,nl (q.den*r.num.natAbs)<2^40,(0:Nat)<1]
         (ag.aj [(0:Nat)<1]
          (ag.leaf aq.ret
           [AV.rat (sQ (decide (q<0)!=decide (r<0)) (q.num.natAbs*r.den) (q.den*r.num.natAbs))
             (cW (sQ (decide (q<0)!=decide (r<0)) (q.num.natAbs*r.den) (q.den*r.num.natAbs))),.int .i64 0]))).all fun _ us=>fK us (.tuple [.rat (q/r) (n+m),.int .i64 (if r=0 then 3 else 0)]):=by
  simp only[ag.all,az]
  exact⟨⟨aa,aa,aa,aa,a1,b2,aa,aa,a2,b1,m1,m2,aa⟩,aa,dU hv hz,he,trivial⟩
 refine⟨fun h1=>⟨show 0<1 by omega,fun h2=>?_,fun h2=>hlong⟩,fun h1=>hlong⟩
 obtain⟨q1,q2⟩:=qg h1
 obtain⟨r1,r2⟩:=qg h2
 obtain⟨wx,bx⟩:=oQ q1 r2
 obtain⟨wd,bd⟩:=oQ q2 r1
 have hr0:r.num.natAbs≠0:=fun h=>h0 (pW.1 h)
 have hd0:q.den*r.num.natAbs≠0:=Nat.mul_ne_zero d1 hr0
 rw[if_pos h1,if_pos h2,if_pos h1,if_pos h2,wx,wd]
 simp only[ag.all,az,bf]
 exact⟨⟨aa,aa,aa,aa,aa⟩,aa,dU hv hz,he,trivial⟩
end ops
def ML:Spec:=bY fun l=>match l with
 |[.int .i64 n]=>some (aJ (.rat (n:Rat) (max 1 (bN n.natAbs))) [-2^63<=n,n<2^63])
 |_=>none
theorem aaq:aU P ML 221:=by
 refine cF fun K args r hk hs _=>?_
 split at hs
 ·simp only[ay]at hs
  subst hs
  exact fun need=>Hw need.1 need.2 K trivial
 ·simp at hs
end Go.Am.B
namespace Go.Am.B
open Go Go.Am.N AV Proofs.Tryz IntKind
theorem acK:aW 185 f185:=aT func185
theorem aaA:aW 190 f190:=aT func190
theorem W7:aW 227 f227:=aT func227
theorem aeB:aW 126 f126:=aT func126
theorem ZW:aW 228 f228:=aT func228
theorem TG {n:Nat} {z:Nat->Nat}:aH T [] [] 30 [0,3] (before (aF f185) [1,1,0]) ⟨aQ 0 [.ak 1 n (aB z)],[],0⟩=
  some (ag.leaf aq.normal ([ak 1 n (aB z),int .i64 (↑n:Int)],[])):=ah
theorem Z3 {n k:Nat} {z:Nat->Nat}:aH T [] [8,15] 30 [0,3] [part (aF f185) [1,1,0,0,0]] ⟨aA [0,3] [.ak 1 n (aB z),.int .i64 k],[],0⟩=
  some (ag.fork (decide ((↑k:Int)>0)) (ag.aj [decide ((↑k:Int)>0)=true,(0:Int)<=i64.wrap ((↑k:Int)-1)/\(i64.wrap ((↑k:Int)-1)).toNat<n] (ag.fork (bif true then(↑(z (i64.wrap ((↑k:Int)-1)).toNat):Int)==0 else false) (ag.leaf aq.normal ([ak 1 n (aB z),int .i64 (i64.wrap ((↑k:Int)-1))],[])) (ag.leaf (aq.exit 0) ([ak 1 n (aB z),int .i64 (↑k:Int)],[])))) (ag.aj [decide ((↑k:Int)>0)=false] (ag.fork false (ag.leaf aq.normal ([ak 1 n (aB z),int .i64 (i64.wrap ((↑k:Int)-1))],[])) (ag.leaf (aq.exit 0) ([ak 1 n (aB z),int .i64 (↑k:Int)],[]))))):=ah
theorem RQ {n k:Nat} {z:Nat->Nat}:cy T [] [] 30 f185 (behind (aF f185) [1,1,0]) ⟨aA [0,3] [.ak 1 n (aB z),.int .i64 k],[],0⟩=
  some (ag.aj [(0:Nat)*1<=2^24,(0:Int)<=0/\(0:Int)<=(↑k:Int)/\(↑k:Int)<=(↑k:Int)/\(↑k:Int)<=(↑n:Int),((0:Nat)+((↑k:Int).toNat-Int.toNat (0:Int)))*((4:Nat)+1)*2<=2^47] (ag.leaf aq.ret [ak 1 ((0:Nat)+((↑k:Int).toNat-Int.toNat (0:Int))) fun(i:Nat)=>if i+0<0 then nth [] (int .u32 (0:Int)) (i+0)else aB z (i+0-0+Int.toNat (0:Int))])):=ah
def ud:Spec:=bY (l7 fun N n=>aJ (.mag N) [n<2^40])
def fG:aX:=[(185,ud)]
theorem afV {n:Nat}:bU T fG [] 30 f190 (aF f190) ⟨aQ 0 [.int .u64 n],[],0⟩=
  some (ag.aj [(0:Int)<=32,(2:Nat)*1<=2^24,eG 2 fun(i:Nat)=>nth [int .u32 (u32.wrap (↑n:Int)),int .u32 (u32.wrap ((↑n:Int).fdiv ((2:Int)^min (Int.toNat (32:Int)) u64.bits)))] (int .u32 (0:Int)) (i+0),(2:Nat)<2^40] (ag.leaf aq.ret [mag (val 2 fun(i:Nat)=>numOf (nth [int .u32 (u32.wrap (↑n:Int)),int .u32 (u32.wrap ((↑n:Int).fdiv ((2:Int)^min (Int.toNat (32:Int)) u64.bits)))] (int .u32 (0:Int)) (i+0)))])):=ah
theorem aiP {A:Nat}:bU T fG [6,8,14] 30 f227 (aF f227) ⟨aQ 0 [.mag A],[],0⟩=
  some (ag.fork ((↑(nl A):Int)==0) (ag.leaf aq.ret [int .u64 (0:Int),AV.bool true]) (ag.fork ((↑(nl A):Int)==1) (ag.aj [(0:Int)<=0/\Int.toNat (0:Int)<nl A] (ag.leaf aq.ret [int .u64 (u64.wrap (↑(aD A (Int.toNat (0:Int))):Int)),AV.bool true])) (ag.fork ((↑(nl A):Int)==2) (ag.aj [(0:Int)<=0/\Int.toNat (0:Int)<nl A,(0:Int)<=1/\Int.toNat (1:Int)<nl A,(0:Int)<=32] (ag.leaf aq.ret [int .u64 (u64.wrap (↑(BitVec.ofInt u64.bits (u64.wrap (↑(aD A (Int.toNat (0:Int))):Int))|||BitVec.ofInt u64.bits (u64.wrap (u64.wrap (↑(aD A (Int.toNat (1:Int))):Int)*2^min (Int.toNat (32:Int)) u64.bits))).toNat:Int)),AV.bool true])) (ag.leaf aq.ret [int .u64 (0:Int),AV.bool false])))):=ah
theorem RV {A B:Nat}:aH T [] [10,15] 30 [0,1,5,4] (before (aF f126) [1,1,0,1]) ⟨aQ 0 [.mag A,.mag B],[],0⟩=
  some (ag.fork ((↑(nl A):Int)!=(↑(nl B):Int)) (ag.fork (decide ((↑(nl A):Int)<(↑(nl B):Int))) (ag.leaf aq.ret ([mag A,mag B,tuple [],int .i64 (-1:Int)],[])) (ag.leaf aq.ret ([mag A,mag B,tuple [],int .i64 (1:Int)],[]))) (ag.leaf aq.normal ([mag A,mag B,int .i64 (i64.wrap ((↑(nl A):Int)-1)),int .i64 (0:Int)],[]))):=ah
theorem abB {A B k:Nat}:aH T [] [20,31,40] 30 [0,1,5,4] [part (aF f126) [1,1,0,1,0,0]] ⟨aA [0,1,5,4] [.mag A,.mag B,.int .i64 ((k:Int)-1),.int .i64 0],[],0⟩=
  some (ag.fork (decide ((↑k:Int)-1>=(0:Int))) (ag.aj [(0:Int)<=(↑k:Int)-1/\((↑k:Int)-1).toNat<nl A,(0:Int)<=(↑k:Int)-1/\((↑k:Int)-1).toNat<nl B] (ag.fork (decide ((↑(aD A ((↑k:Int)-1).toNat):Int)<(↑(aD B ((↑k:Int)-1).toNat):Int))) (ag.leaf aq.ret ([mag A,mag B,int .i64 ((↑k:Int)-1),int .i64 (-1:Int)],[])) (ag.aj [(0:Int)<=(↑k:Int)-1/\((↑k:Int)-1).toNat<nl A,(0:Int)<=(↑k:Int)-1/\((↑k:Int)-1).toNat<nl B] (ag.fork (decide ((↑(aD A ((↑k:Int)-1).toNat):Int)>(↑(aD B ((↑k:Int)-1).toNat):Int))) (ag.leaf aq.ret ([mag A,mag B,int .i64 ((↑k:Int)-1),int .i64 (1:Int)],[])) (ag.leaf aq.normal ([mag A,mag B,int .i64 (i64.wrap ((↑k:Int)-1-(1:Int))),int .i64 (0:Int)],[])))))) (ag.leaf (aq.exit 0) ([mag A,mag B,int .i64 ((↑k:Int)-1),int .i64 (0:Int)],[]))):=ah
theorem ahL {A B k:Nat}:cy T [] [] 30 f126 (behind (aF f126) [1,1,0,1]) ⟨aA [0,1,5,4] [.mag A,.mag B,.int .i64 ((k:Int)-1),.int .i64 0],[],0⟩=
  some (ag.leaf aq.ret [int .i64 (0:Int)]):=ah
theorem abM {n:Nat} {z:Nat->Nat}:aH T [] [7] 30 [3,4,2] (before (aF f228) [1,1,1,0,1]) ⟨aQ 0 [.ak 1 n (aB z)],[],0⟩=
  some (ag.fork ((↑n:Int)==0) (ag.leaf aq.ret ([tuple [],tuple [],int .i64 (0:Int)],[])) (ag.aj [(0:Int)<=i64.wrap ((↑n:Int)-1)/\(i64.wrap ((↑n:Int)-1)).toNat<n] (ag.leaf aq.normal ([int .i64 (i64.wrap ((32:Int)*i64.wrap ((↑n:Int)-1))),int .u32 (↑(z (i64.wrap ((↑n:Int)-1)).toNat):Int),int .i64 (0:Int)],[])))):=ah
theorem UZ {x y:Nat}:aH T [] [19] 30 [3,4,2] [part (aF f228) [1,1,1,0,1,0,0]] ⟨aA [3,4,2] [.int .i64 x,.int .u32 y,.int .i64 0],[],0⟩=
  some (ag.fork ((↑y:Int)!=0) (ag.aj [(0:Int)<=1] (ag.leaf aq.normal ([int .i64 (i64.wrap ((↑x:Int)+1)),int .u32 ((↑y:Int).fdiv ((2:Int)^min (Int.toNat (1:Int)) u32.bits)),int .i64 (0:Int)],[]))) (ag.leaf (aq.exit 0) ([int .i64 (↑x:Int),int .u32 (↑y:Int),int .i64 (0:Int)],[]))):=ah
theorem SF {x y:Nat}:cy T [] [] 30 f228 (behind (aF f228) [1,1,1,0,1]) ⟨aA [3,4,2] [.int .i64 x,.int .u32 y,.int .i64 0],[],0⟩=
  some (ag.leaf aq.ret [int .i64 (↑x:Int)]):=ah
theorem YG {n:Nat} {z:Nat->Nat} (hz:∀i,i<n->z i<2^32) (hn:n<2^40) (K:Nat):aS P 185 K [.ak 1 n (aB z)] [] (aJ (.mag (val n z)) []):=by
 refine fX hT acK rfl aV rfl (fun _ c h0=>?_) K []
 refine ax.hole [1,1,0] ah (aG.bE hT bB hm 30 [0,3] TG ah fun s' hv=>cJ ?_)
 refine ax.iH (i:=0) (y:=part (aF f185) [1,1,0,0,0]) ah [0,3] 0 (h0 _) (fun k:Nat=>[.ak 1 n (aB z),.int .i64 k]) (fun _=>[]) (fun _=>rfl) (fun _=>trivial)
  (fun k=>k<=n/\∀i,k<=i->i<n->z i=0) id n hv ⟨bz,fun i h1 h2=>aa⟩ ?_
 rintro j ⟨hj,hzj⟩
 refine ax.bE hT bB hm 30 [0,3] Z3 ah ?_
 have fin:(j=0\/z (j-1)≠0)->∀s',bA [0,3] s'=some ([.ak 1 n (aB z),.int .i64 j],[])->aG P c f185.ntmps (behind (aF f185) [1,1,0]) s' (dH c (Fin T f185 (.mag (val n z)))):=by
  intro hj0 s' hv
  refine aG.kU hT bB hm 30 hv (h0 0) rfl trivial RQ ah ah ?_
  simp only[ag.all,az,bf,Int.toNat_zero,Nat.zero_add,Nat.sub_zero,Nat.add_zero]
  have e:val n z=val j z:=nR hj hzj
  refine⟨⟨aa,aa,aa⟩,mR (by rw[e,zS (fun i hi=>hz i aa) hj0]) fun i hi=>?_⟩
  rw[if_neg aa,e,pZ (fun j hj=>hz j aa) hi]
  rfl
 have hw:0<j->i64.wrap ((j:Int)-1)=((j-1:Nat):Int):=fun h=>by rw[wrap_i64 aa aa];omega
 refine⟨fun hb=>?_,fun hb=>?_⟩
 ·have h1:0<j:=by simpa using hb
  rw[hw h1]
  have hj1:j-1<n:=aa
  refine⟨⟨hb,aa,by rw[bf];exact hj1⟩,fun hc s' hv=>?_,fun hc s' hv=>?_⟩
  ·refine⟨j-1,hv,⟨aa,fun i h1 h2=>?_⟩,by simp;omega⟩
   by_cases hi:i=j-1
   ·subst hi;simpa using hc
   ·exact hzj i aa h2
  ·exact fZ (fin (.inr (by simpa using hc)) s' hv)
 ·have h1:j=0:=by simpa using hb
  refine⟨hb,fun hc=>by simp at hc,fun hc s' hv=>fZ (fin (.inl h1) s' hv)⟩
theorem zD:aU P ud 185:=
 cF (u9 fun _ _ K hz need=>YG hz need K)
theorem fO:bq P fG:=aI zD bB
theorem agE {x:Nat} (hx:x<2^64) (K:Nat):aS P 190 K [.int .u64 x] [] (aJ (.mag x) []):=by
 refine bX hT fO hm aaA rfl aV rfl 30 afV (fun _=>?_) K []
 simp only[ag.all,az,mq]
 refine⟨⟨aa,aa,fun i hi=>?_,aa⟩,dX (congrArg AV.mag ?_)⟩
 ·match i,hi with
  |0,_=>exact⟨x%2^32,aa,by simp[nth,kE]⟩
  |1,_=>exact⟨x/4294967296,aa,by simp[nth,mI];omega⟩
 ·rw[val_two]
  simp[nth,numOf,mI]
  omega
def wY:Spec:=bY fun l=>match l with
 |[.int .u64 x]=>some (aJ (.mag x.toNat) [0<=x/\x<2^64])
 |_=>none
theorem Cq:aU P wY 190:=by
 refine cF fun K args r hk hs _=>?_
 split at hs
 ·simp only[ay]at hs
  subst hs
  intro need
  obtain⟨h1,h2⟩:=need
  rename_i x
  obtain⟨y,rfl⟩:=Int.eq_ofNat_of_zero_le h1
  exact agE (x:=y) aa K trivial
 ·simp at hs
def gG (A:Nat):Bool:=decide (A<18446744073709551616)
theorem WJ {A:Nat} (K:Nat):aS P 227 K [.mag A] [] (aJ (.tuple [.int .u64 (if gG A then A else 0:Nat),.bool (gG A)]) []):=by
 refine bX hT fO hm W7 rfl aV rfl 30 aiP (fun _=>?_) K []
 simp only[ag.all,az,beq_iff_eq,beq_eq_false_iff_ne,ne_eq,Int.toNat_zero,show Int.toNat 1=1 from rfl]
 have hv:=gI (N:=A)
 have l0:=dY (N:=A) (i:=0)
 have l1:=dY (N:=A) (i:=1)
 have yes:∀{x:Int},A<2^64->x=(A:Nat)->fK [.int .u64 x,.bool true] (.tuple [.int .u64 (if gG A then A else 0:Nat),.bool (gG A)]):=fun h hx=>by
  have:gG A=true:=by unfold gG;simpa using h
  rw[this,if_pos rfl]
  exact⟨bS hx,.refl _,trivial⟩
 refine⟨fun hb=>yes ?_ ?_,fun hb=>⟨fun h1=>⟨aa,yes ?_ ?_⟩,fun h1=>⟨fun h2=>⟨⟨aa,aa,aa⟩,yes ?_ ?_⟩,fun h2=>?_⟩⟩⟩
 ·have:A=0:=j5.1 aa
  omega
 ·have:A=0:=j5.1 aa
  rw[this];rfl
 ·exact pH aa
 ·rw[show nl A=1 by omega,val,val]at hv
  rw[cr aa aa]
  simp at hv;omega
 ·exact pH aa
 ·rw[show nl A=2 by omega,val,val,val]at hv
  have e1:u64.wrap (aD A 0:Int)=((aD A 0:Nat):Int):=cr aa aa
  have e2:u64.wrap (aD A 1:Int)=((aD A 1:Nat):Int):=cr aa aa
  have e3:u64.wrap ((aD A 1:Int)*2^min (Int.toNat 32) u64.bits)=((aD A 1*4294967296:Nat):Int):=by
   rw[wH,cr aa aa];omega
  rw[e1,e2,e3,vO aa aa]
  congr 1
  rw[Nat.or_comm,show 4294967296=2^32 from rfl,r8 l0]
  simp at hv;omega
 ·have:gG A=false:=by
   unfold gG
   simp only[bt]
   intro h
   have:nl A<=2:=dF.2 h
   omega
  rw[this]
  exact⟨.refl _,.refl _,trivial⟩
def Gr:Spec:=bY fun l=>match l with
 |[a]=>match jt a with
  |some A=>some (aJ (.tuple [.int .u64 (if gG A then A else 0:Nat),.bool (gG A)]) [])
  |none=>none
 |_=>none
theorem LP:aU P Gr 227:=by
 refine cF fun K args r hk hs _=>?_
 split at hs
 ·split at hs
  ·rename_i A hA
   simp only[ay]at hs
   subst hs
   exact iD (WJ K) hk ⟨mE hA,trivial⟩ []
  ·simp at hs
 ·simp at hs
theorem Rk {A B:Nat} (hA:nl A<2^40) (hB:nl B<2^40) (K:Nat):aS P 126 K [.mag A,.mag B] [] (aJ (.int .i64 (cZ A B)) []):=by
 refine fX hT aeB rfl aV rfl (fun _ c h0=>?_) K []
 refine ax.hole [1,1,0,1] ah (aG.bE hT bB hm 30 [0,1,5,4] RV ah ?_)
 simp only[ag.all,az,bk,bt,bne_iff_ne,ne_eq,Int.natCast_inj,bne_eq_false_iff_eq]
 refine⟨fun hb=>⟨fun hb2 s' hv=>fW (.inl ?_),fun hb2 s' hv=>fW (.inl ?_)⟩,fun hb s' hv=>cJ ?_⟩
 ·have h1:A<B:=Bu aa
  exact gX (us:=[.int .i64 (-1)]) (.inr rfl) hv ah (bS (by simp[cZ,h1]))
 ·have h1:B<A:=Bu aa
  exact gX (us:=[.int .i64 1]) (.inr rfl) hv ah (bS (by simp[cZ,h1];omega))
 refine ax.iH (i:=0) (y:=part (aF f126) [1,1,0,1,0,0]) ah [0,1,5,4] 0 (h0 _) (fun k:Nat=>[.mag A,.mag B,.int .i64 ((k:Int)-1),.int .i64 0]) (fun _=>[]) (fun _=>rfl) (fun _=>trivial)
  (fun k=>k<=nl A/\∀j,k<=j->j<nl A->aD A j=aD B j) id (nl A) (ec hv (by rw[wrap_i64 aa aa]) rfl) ⟨by simp,fun j h1 h2=>aa⟩ ?_
 rintro k ⟨hk,hlim⟩
 refine ax.bE hT bB hm 30 [0,1,5,4] abB ah ?_
 simp only[ag.all,az,bk,bt]
 refine⟨fun hb2=>?_,fun hb2 s' hv=>fZ ?_⟩
 ·obtain⟨j,rfl⟩:∃j,k=j+1:=⟨k-1,aa⟩
  have e:(((j+1:Nat):Int)-1).toNat=j:=aa
  rw[e]
  refine⟨⟨aa,aa⟩,fun hlt s' hv=>JD (fW (.inl ?_)),fun hlt=>⟨⟨aa,aa⟩,fun hgt s' hv=>JD (fW (.inl ?_)),fun hgt s' hv=>?_⟩⟩
  ·have h1:A<B:=B7 hb (k:=j) aa (fun i h1 h2=>hlim i aa h2) aa
   exact gX (us:=[.int .i64 (-1)]) (.inr rfl) hv ah (bS (by simp[cZ,h1]))
  ·have h1:B<A:=B7 hb.symm (k:=j) aa (fun i h1 h2=>(hlim i aa aa).symm) aa
   exact gX (us:=[.int .i64 1]) (.inr rfl) hv ah (bS (by simp[cZ,h1];omega))
  ·refine⟨j,ec hv (by rw[wrap_i64 aa aa];congr 4;omega) rfl,⟨aa,fun i h1 h2=>?_⟩,by simp⟩
   by_cases hi:i=j
   ·subst hi;omega
   ·exact hlim i aa h2
 ·have hk0:k=0:=aa
  have hAB:A=B:=EK hb fun i hi=>hlim i aa hi
  exact cJ (aG.kU hT bB hm 30 hv (h0 0) rfl trivial ahL ah ah (bS (by simp[cZ,hAB])))
def nO (g:Nat->Nat->AV) (l:Nat->Nat->List Prop):Spec:=bY fun a=>match a with
 |[x,y]=>match jt x,jt y with
  |some A,some B=>some (aJ (g A B) (l A B))
  |_,_=>none
 |_=>none
theorem qE {f:FuncId} {g:Nat->Nat->AV} {l:Nat->Nat->List Prop} (h:∀{A B:Nat},az (l A B)->∀K,aS P f K [.mag A,.mag B] [] (aJ (g A B) [])):aU P (nO g l) f:=by
 refine cF fun K args r hk hs _=>?_
 split at hs
 ·split at hs
  ·rename_i A B hA hB
   simp only[ay]at hs
   subst hs
   exact fun need=>iD (h need K) hk ⟨mE hA,mE hB,trivial⟩ [] trivial
  ·simp at hs
 ·simp at hs
abbrev ER (A B:Nat):List Prop:=[nl A<2^40,nl B<2^40]
def zA:Spec:=nO (fun A B=>.int .i64 (cZ A B)) ER
theorem AE:aU P zA 126:=qE fun h=>Rk h.1 h.2
theorem Re {n:Nat} {z:Nat->Nat} (hz:∀i,i<n->z i<2^32) (hn:n<2^40) (hnl:nl (val n z)=n) (K:Nat):aS P 228 K [.ak 1 n (aB z)] [] (aJ (.int .i64 (bN (val n z):Nat)) []):=by
 refine fX hT ZW rfl aV rfl (fun _ c h0=>?_) K []
 refine ax.hole [1,1,1,0,1] ah (aG.bE hT bB hm 30 [3,4,2] abM ah ?_)
 simp only[ag.all,az,beq_iff_eq,beq_eq_false_iff_ne,ne_eq]
 refine⟨fun hb s' hv=>fW (.inl ?_),fun hb=>?_⟩
 ·have h1:n=0:=aa
  have h2:val n z=0:=by rw[h1];rfl
  exact gX (us:=[.int .i64 0]) (.inr rfl) hv ah (bS (by rw[h2];rfl))
 have w1:i64.wrap ((n:Int)-1)=((n-1:Nat):Int):=fE aa aa
 have w2:i64.wrap (32*((n-1:Nat):Int))=((32*(n-1):Nat):Int):=fE aa aa
 rw[w1,w2]
 simp only[bf]
 refine⟨aa,fun s' hv=>cJ ?_⟩
 have hzt:=hz (n-1) aa
 have htot:bN (val n z)=32*(n-1)+bN (z (n-1)):=by
  have h0:val n z≠0:=g9.1 aa
  rw[LM h0,hnl,pZ hz aa]
 refine ax.iH (i:=0) (y:=part (aF f228) [1,1,1,0,1,0,0]) ah [3,4,2] 0 (h0 _) (fun p:Nat×Nat=>[.int .i64 (p.1:Nat),.int .u32 (p.2:Nat),.int .i64 0]) (fun _=>[]) (fun _=>rfl) (fun _=>trivial)
  (fun p=>p.1+bN p.2=bN (val n z)/\p.2<2^32) (fun p=>p.2) (32*(n-1),z (n-1)) hv ⟨htot.symm,hzt⟩ ?_
 rintro⟨x,y⟩ ⟨hxy,hy⟩
 simp only at hxy hy
 have hb32:bN (z (n-1))<=32:=jr.2 hzt
 refine ax.bE hT bB hm 30 [3,4,2] UZ ah ?_
 rw[wN (by decide) (by decide)]
 simp only[ag.all,az,bne_iff_ne,ne_eq,bne_eq_false_iff_eq,show Int.toNat 1=1 from rfl]
 refine⟨fun hc=>⟨aa,fun s' hv=>?_⟩,fun hc s' hv=>fZ (cJ ?_)⟩
 ·have hy0:0<y:=aa
  have e:bN y=1+bN (y/2):=by
   by_cases h1:y=1
   ·rw[h1];decide
   ·exact uW (k:=1) aa
  have hd:y/2<y:=aa
  exact⟨(x+1,y/2),ec hv (by rw[fE (a:=(x:Int)+1) (n:=x+1) aa aa]) rfl,⟨by simp only;omega,by simp only;omega⟩,by simp only;omega⟩
 ·have hy0:y=0:=aa
  refine aG.kU hT bB hm 30 hv (h0 0) rfl trivial SF ah ah (bS ?_)
  rw[hy0]at hxy
  simp[bN]at hxy
  rw[hxy];simp[bN]
def JB:Spec:=bY (l7 fun N n=>aJ (.int .i64 (bN N:Nat)) [n<2^40,nl N=n])
theorem ajh:aU P JB 228:=
 cF (u9 fun _ _ K hz need=>Re hz need.1 need.2 K)
theorem WH:aW 125 f125:=aT func125
abbrev fj:List Nat:=[0,1,5,6,7]
abbrev zP (A B c i:Nat):List AV:=[.mag A,.mag B,.own 7 1 0 i,.int .u64 c,.int .i64 i]
abbrev pe (i:Nat) (o:Nat->Nat):aC:=[(7,⟨true,true,1,i,aB o⟩)]
abbrev jA:Code:=part (aF f125) [1,1,1,0,1,0,0]
theorem Tr {A B:Nat}:aH T fG [] 60 fj (before (aF f125) [1,1,1,0,1]) ⟨aQ 0 [.mag A,.mag B],[],0⟩=
  some (ag.leaf aq.normal ([mag A,mag B,nil,int .u64 (0:Int),int .i64 (0:Int)],[])):=ah
theorem ajE {A B c:Nat}:aH T fG [12,18,21] 60 fj [part jA [0]] ⟨aA fj [.mag A,.mag B,.nil,.int .u64 c,.int .i64 0],[],8⟩=
  let c3:Bool:=bif false then true else decide ((0:Int)<(↑(nl B):Int));let c2:Bool:=decide ((0:Int)<(↑(nl A):Int));let c1:List AV×aC:=([mag A,mag B,nil,int .u64 (↑c:Int),int .i64 (0:Int)],[]);let c5:ag (List AV×aC):=ag.fork true (ag.leaf aq.normal c1) (ag.leaf (aq.exit 0) c1);let c4:ag (List AV×aC):=ag.fork (bif false then true else(↑c:Int)!=0) (ag.leaf aq.normal c1) (ag.leaf (aq.exit 0) c1);some (ag.fork c2 (ag.fork true (ag.aj [c2=true,true=true] c5) (ag.aj [c2=true,true=false] c4)) (ag.fork c3 (ag.aj [c2=false,c3=true] c5) (ag.aj [c2=false,c3=false] c4))):=ah
theorem ahB {A B c i:Nat} {o:Nat->Nat}:aH T fG [12,18,21] 60 fj [part jA [0]] ⟨aA fj (zP A B c i),pe i o,8⟩=
  let c6:Int:=(↑i:Int);let c3:Bool:=bif false then true else decide (c6<(↑(nl B):Int));let c2:Bool:=decide (c6<(↑(nl A):Int));let c1:List AV×aC:=([mag A,mag B,own 7 1 0 i,int .u64 (↑c:Int),int .i64 c6],[(7,au.mk true true 1 i fun a=>int .u32 (↑(o a):Int))]);let c5:ag (List AV×aC):=ag.fork true (ag.leaf aq.normal c1) (ag.leaf (aq.exit 0) c1);let c4:ag (List AV×aC):=ag.fork (bif false then true else(↑c:Int)!=0) (ag.leaf aq.normal c1) (ag.leaf (aq.exit 0) c1);some (ag.fork c2 (ag.fork true (ag.aj [c2=true,true=true] c5) (ag.aj [c2=true,true=false] c4)) (ag.fork c3 (ag.aj [c2=false,c3=true] c5) (ag.aj [c2=false,c3=false] c4))):=ah
theorem RF {A B c:Nat}:aH T fG [27,38] 60 fj (before (part jA [1,0,0]) [1,1]) ⟨aA fj [.mag A,.mag B,.nil,.int .u64 c,.int .i64 0],[],8⟩=
  let c5:Prop:=(0:Int)<=0;let c4:Int:=(↑(nl B):Int);let c2:List AV:=[int .i64 (0:Int)];let c1:Nat:=Int.toNat (0:Int);let c6:Int:=u64.wrap (↑(aD B c1):Int);let c3:Int:=u64.wrap ((↑c:Int)+u64.wrap (↑(aD A c1):Int));some (ag.fork (decide ((0:Int)<(↑(nl A):Int))) (ag.aj [c5/\c1<nl A] (ag.fork (decide ((0:Int)<c4)) (ag.aj [c5/\c1<nl B] (ag.leaf aq.normal (mag A::mag B::nil::int .u64 (u64.wrap (c3+c6))::c2,[]))) (ag.leaf aq.normal (mag A::mag B::nil::int .u64 c3::c2,[])))) (ag.fork (decide ((0:Int)<c4)) (ag.aj [c5/\c1<nl B] (ag.leaf aq.normal (mag A::mag B::nil::int .u64 (u64.wrap ((↑c:Int)+c6))::c2,[]))) (ag.leaf aq.normal (mag A::mag B::nil::int .u64 (↑c:Int)::c2,[])))):=ah
theorem VD {A B c i:Nat} {o:Nat->Nat}:aH T fG [27,38] 60 fj (before (part jA [1,0,0]) [1,1]) ⟨aA fj (zP A B c i),pe i o,8⟩=
  let c7:Int:=(↑(nl B):Int);let c3:AV:=own 7 1 0 i;let c2:Int:=(↑i:Int);let c1:Nat×au:=(7,au.mk true true 1 i fun a=>int .u32 (↑(o a):Int));let c8:Prop:=(0:Int)<=c2/\c2.toNat<nl B;let c6:Int:=u64.wrap (↑(aD B c2.toNat):Int);let c5:List AV:=[int .i64 c2];let c4:Int:=u64.wrap ((↑c:Int)+u64.wrap (↑(aD A c2.toNat):Int));some (ag.fork (decide (c2<(↑(nl A):Int))) (ag.aj [(0:Int)<=c2/\c2.toNat<nl A] (ag.fork (decide (c2<c7)) (ag.aj [c8] (ag.leaf aq.normal (mag A::mag B::c3::int .u64 (u64.wrap (c4+c6))::c5,[c1]))) (ag.leaf aq.normal (mag A::mag B::c3::int .u64 c4::c5,[c1])))) (ag.fork (decide (c2<c7)) (ag.aj [c8] (ag.leaf aq.normal (mag A::mag B::c3::int .u64 (u64.wrap ((↑c:Int)+c6))::c5,[c1]))) (ag.leaf aq.normal (mag A::mag B::c3::int .u64 (↑c:Int)::c5,[c1])))):=ah
theorem UL {A B c:Nat}:aH T fG [] 60 fj [part (part jA [1,0,0]) [1,1]] ⟨aA fj [.mag A,.mag B,.nil,.int .u64 c,.int .i64 0],[],8⟩=
  some (ag.aj [(1:Nat)*1<=2^24,(0:Nat)<1/\1*((4:Nat)+1)*2<=2^47] (ag.aj [(0:Int)<=32] (ag.leaf aq.normal ([mag A,mag B,own 16392 1 0 1,int .u64 ((↑c:Int).fdiv ((2:Int)^min (Int.toNat (32:Int)) u64.bits)),int .i64 (0:Int)],[(16392,au.mk true true 1 1 fun i=>nth [int .u32 (u32.wrap (↑c:Int))] (int .u32 (0:Int)) (i+0))])))):=ah
theorem ajP {A B c i:Nat} {o:Nat->Nat}:aH T fG [] 60 fj [part (part jA [1,0,0]) [1,1]] ⟨aA fj (zP A B c i),pe i o,8⟩=
  some (ag.aj [(1:Nat)*1<=2^24,(i+1)*((4:Nat)+1)*2<=2^47] (ag.aj [(0:Int)<=32] (ag.leaf aq.normal ([mag A,mag B,own 16392 1 0 (i+1),int .u64 ((↑c:Int).fdiv ((2:Int)^min (Int.toNat (32:Int)) u64.bits)),int .i64 (↑i:Int)],[(16392,au.mk true true 1 (i+1) fun i_1=>if i_1<i then aB o i_1 else nth [int .u32 (u32.wrap (↑c:Int))] (int .u32 (0:Int)) (i_1-i+0))])))):=ah
theorem UC {A B c i j:Nat} {o:Nat->Nat}:aH T fG [] 60 fj [part jA [1,1]] ⟨aA fj [.mag A,.mag B,.own 7 1 0 i,.int .u64 c,.int .i64 j],pe i o,8⟩=
  some (ag.leaf aq.normal ([mag A,mag B,own 7 1 0 i,int .u64 (↑c:Int),int .i64 (i64.wrap ((↑j:Int)+1))],[(7,au.mk true true 1 i fun a=>int .u32 (↑(o a):Int))])):=ah
theorem ZS {A B c:Nat}:cy T fG [] 60 f125 (behind (aF f125) [1,1,1,0,1]) ⟨aA fj [.mag A,.mag B,.nil,.int .u64 c,.int .i64 0],[],8⟩=
  some (ag.leaf aq.ret [nil]):=ah
theorem acn {A B c i:Nat} {o:Nat->Nat}:cy T fG [] 60 f125 (behind (aF f125) [1,1,1,0,1]) ⟨aA fj (zP A B c i),pe i o,8⟩=
  some (ag.leaf aq.ret [ak 1 i fun i=>int .u32 (↑(o (i+0)):Int)]):=ah
theorem jZ {A i:Nat} (h:nl A<=i):aD A i=0:=by
 unfold aD
 rw[Nat.div_eq_of_lt (dF.1 h)]
def nr (A B c:Nat):Nat->List AV
 |0=>[.mag A,.mag B,.nil,.int .u64 c,.int .i64 0]
 |i+1=>zP A B c (i+1)
def mW (o:Nat->Nat):Nat->aC
 |0=>[]
 |i+1=>pe (i+1) o
theorem pK {A B c i:Nat}:j8 8 (nr A B c i)=true:=by cases i<;>rfl
theorem pP {o:Nat->Nat} {i:Nat}:iF 8 (mW o i):=by
 cases i
 ·trivial
 ·exact⟨⟨aa,fun _ _=>rfl⟩,trivial⟩
section fadd
variable {c0:Ctx} (h0:c0.k0=bG) {A B:Nat} {Q:aq->aK->Prop}
include h0 in
theorem afX {c i:Nat} {o:Nat->Nat} {s':aK} (hc:c<=1) (hv:bA fj s'=some (nr A B c i,mW o i))
  (fin:∀s',bA fj s'=some (nr A B (c+aD A i+aD B i) i,mW o i)->Q .normal s'):aG P c0 f125.ntmps (before (part jA [1,0,0]) [1,1]) s' Q:=by
 have la:=dY (N:=A) (i:=i)
 have lb:=dY (N:=B) (i:=i)
 have wa:u64.wrap (aD A i:Int)=((aD A i:Nat):Int):=cr aa aa
 have wb:u64.wrap (aD B i:Int)=((aD B i:Nat):Int):=cr aa aa
 have w1:u64.wrap ((c:Int)+((aD A i:Nat):Int))=((c+aD A i:Nat):Int):=by rw[cr aa aa];omega
 have w2:u64.wrap ((c:Int)+((aD B i:Nat):Int))=((c+aD B i:Nat):Int):=by rw[cr aa aa];omega
 have w3:u64.wrap (((c+aD A i:Nat):Int)+((aD B i:Nat):Int))=((c+aD A i+aD B i:Nat):Int):=by rw[cr aa aa];omega
 cases i with
 |zero=>
  refine aG.fS hT fO hm 60 hv (kX h0) pK pP fj RF ah ah ?_
  simp only[ag.all,az,bk,bt,Int.toNat_zero]
  rw[wa,wb,w1,w2,w3]
  refine⟨fun h1=>⟨aa,fun h2=>⟨aa,fun s' hv=>fin s' hv⟩,fun h2 s' hv=>fin s' (ec hv ?_ rfl)⟩,fun h1=>⟨fun h2=>⟨aa,fun s' hv=>fin s' (ec hv ?_ rfl)⟩,fun h2 s' hv=>fin s' (ec hv ?_ rfl)⟩⟩
  ·rw[jZ (A:=B) aa];rfl
  ·rw[jZ (A:=A) aa];rfl
  ·rw[jZ (A:=A) aa,jZ (A:=B) aa];rfl
 |succ i=>
  refine aG.fS hT fO hm 60 hv (kX h0) pK pP fj VD ah ah ?_
  simp only[ag.all,az,bk,bt,bf]
  rw[wa,wb,w1,w2,w3]
  refine⟨fun h1=>⟨aa,fun h2=>⟨aa,fun s' hv=>fin s' hv⟩,fun h2 s' hv=>fin s' (ec hv ?_ rfl)⟩,fun h1=>⟨fun h2=>⟨aa,fun s' hv=>fin s' (ec hv ?_ rfl)⟩,fun h2 s' hv=>fin s' (ec hv ?_ rfl)⟩⟩
  ·rw[jZ (A:=B) aa];rfl
  ·rw[jZ (A:=A) aa];rfl
  ·rw[jZ (A:=A) aa,jZ (A:=B) aa];rfl
include h0 in
theorem adZ {c i:Nat} {o:Nat->Nat} {s':aK} (hi:i<2^41) (hv:bA fj s'=some (nr A B c i,mW o i))
  (fin:∀s',(∃ρ,Le c0 ρ s' ⟨aA fj [.mag A,.mag B,.own 7 1 0 (i+1),.int .u64 (c/4294967296:Nat),.int .i64 i],pe (i+1) (cE o i (c%4294967296)),8⟩)->Q .normal s'):ax P c0 f125.ntmps (part (part jA [1,0,0]) [1,1]) s' Q:=by
 have hd:(c:Int).fdiv (2^min (Int.toNat 32) u64.bits)=((c/4294967296:Nat):Int):=by rw[mq];omega
 cases i with
 |zero=>
  refine ax.fS hT fO hm 60 hv (kX h0) pK pP fj UL ah ?_
  rw[hd]
  simp only[ag.all,az]
  refine⟨⟨aa,aa,aa⟩,aa,fun s' hv=>fin s' ?_⟩
  refine dL (vs:=[.mag A,.mag B,.own 7 1 0 1,.int .u64 (c/4294967296:Nat),.int .i64 0]) (ps:=pe 1 (cE o 0 (c%4294967296))) (nx:=8) [(7,16392)] hv h0 rfl ⟨aL,aL,⟨rfl,cP rfl rfl rfl⟩,aL,aL,trivial⟩
   ⟨⟨_,_,rfl,rfl,gi rfl fun j hj=>?_⟩,trivial⟩
  have:j=0:=aa
  subst this
  simp[nth,aB,kP,kE]
 |succ i=>
  refine ax.fS hT fO hm 60 hv (kX h0) pK pP fj ajP ah ?_
  rw[hd]
  simp only[ag.all,az]
  refine⟨⟨aa,aa⟩,aa,fun s' hv=>fin s' ?_⟩
  refine dL (vs:=[.mag A,.mag B,.own 7 1 0 (i+1+1),.int .u64 (c/4294967296:Nat),.int .i64 ((i+1:Nat):Int)]) (ps:=pe (i+1+1) (cE o (i+1) (c%4294967296))) (nx:=8) [(7,16392)] hv h0 rfl ⟨aL,aL,⟨rfl,cP rfl rfl rfl⟩,aL,aL,trivial⟩
   ⟨⟨_,_,rfl,rfl,gi rfl fun j hj=>?_⟩,trivial⟩
  by_cases h:j<i+1
  ·rw[if_pos h];unfold aB;rw[gn aa]
  ·have:j=i+1:=aa
   subst this
   simp[nth,aB,kP,kE]
end fadd
theorem ad6 {c i:Nat} {o:Nat->Nat} {c0:Ctx} {Q:aq->aK->Prop} {A B:Nat} (yes:∀s',(i<nl A\/i<nl B\/c≠0)->bA fj s'=some (nr A B c i,mW o i)->Q .normal s')
  (no:∀s',nl A<=i->nl B<=i->c=0->bA fj s'=some (nr A B c i,mW o i)->Q (.exit 0) s'):ax P c0 f125.ntmps (part jA [0]) ⟨aA fj (nr A B c i),mW o i,8⟩ Q:=by
 cases i with
 |zero=>
  refine ax.bE hT fO hm 60 fj ajE ah ?_
  refine⟨fun h=>⟨fun _=>⟨⟨h,rfl⟩,fun _ s' hv=>yes s' (.inl (by have:=of_decide_eq_true h;omega)) hv,fun hf=>by simp at hf⟩,fun hf=>by simp at hf⟩,
   fun h=>⟨fun h2=>⟨⟨h,h2⟩,fun _ s' hv=>yes s' (.inr (.inl (by have:=of_decide_eq_true (jb h2);omega))) hv,fun hf=>by simp at hf⟩,
    fun h2=>⟨⟨h,h2⟩,fun h3 s' hv=>yes s' (.inr (.inr ?_)) hv,fun h3 s' hv=>no s' ?_ ?_ ?_ hv⟩⟩⟩
  ·have:=jb h3
   simp at this;exact this
  ·have:=of_decide_eq_false h;omega
  ·have:=of_decide_eq_false (jb h2);omega
  ·have:=jb h3
   simp at this;exact this
 |succ i=>
  refine ax.bE hT fO hm 60 fj ahB ah ?_
  refine⟨fun h=>⟨fun _=>⟨⟨h,rfl⟩,fun _ s' hv=>yes s' (.inl (by have:=of_decide_eq_true h;omega)) hv,fun hf=>by simp at hf⟩,fun hf=>by simp at hf⟩,
   fun h=>⟨fun h2=>⟨⟨h,h2⟩,fun _ s' hv=>yes s' (.inr (.inl (by have:=of_decide_eq_true (jb h2);omega))) hv,fun hf=>by simp at hf⟩,
    fun h2=>⟨⟨h,h2⟩,fun h3 s' hv=>yes s' (.inr (.inr ?_)) hv,fun h3 s' hv=>no s' ?_ ?_ ?_ hv⟩⟩⟩
  ·have:=jb h3
   simp at this;exact this
  ·have:=of_decide_eq_false h;omega
  ·have:=of_decide_eq_false (jb h2);omega
  ·have:=jb h3
   simp at this;exact this
theorem aaN {A B:Nat} (hA:nl A<2^40) (hB:nl B<2^40) (K:Nat):aS P 125 K [.mag A,.mag B] [] (aJ (.mag (A+B)) []):=by
 refine kG hT WH rfl aV rfl (fun _ c0 h0=>.down ?_) K []
 refine ax.hole [1,1,1,0,1] ah (aG.bE hT fO hm 60 fj Tr ah fun s' hv=>cJ ?_)
 refine ax.jq (i:=0) (y:=jA) ah (fun p:Nat×Nat×(Nat->Nat)=>⟨aA fj (nr A B p.2.1 p.1),mW p.2.2 p.1,8⟩)
  (fun p=>(p.1<=max (nl A) (nl B)\/(p.1=max (nl A) (nl B)+1/\p.2.1=0/\2^(32*max (nl A) (nl B))<=A+B))/\p.2.1<=1/\(∀j,j<p.1->p.2.2 j<2^32)/\val p.1 p.2.2+p.2.1*2^(32*p.1)=val p.1 (aD A)+val p.1 (aD B))
  (fun p=>max (nl A) (nl B)+1-p.1) (0,0,fun _=>0) (pg hv (kX h0) pK pP) ⟨by simp,by simp,fun j hj=>by simp only at hj;omega,by simp[val]⟩ ?_
 rintro⟨i,c,o⟩ ⟨hi,hc,ho,hval⟩
 simp only at hi hc ho hval
 have hAv:max (nl A) (nl B)<=i->val i (aD A)+val i (aD B)=A+B:=fun h=>by
  rw[qi (dF.1 aa),qi (dF.1 aa)]
 -- a round
 have body:∀{s':aK},(i<nl A\/i<nl B\/c≠0)->bA fj s'=some (nr A B c i,mW o i)->∀{QF:aq->aK->Prop},
   ax P c0 f125.ntmps (part jA [1]) s' (eo (fun s'=>∃k:Nat×Nat×(Nat->Nat),(∃ρ,Le c0 ρ s' ⟨aA fj (nr A B k.2.1 k.1),mW k.2.2 k.1,8⟩)/\
    ((k.1<=max (nl A) (nl B)\/(k.1=max (nl A) (nl B)+1/\k.2.1=0/\2^(32*max (nl A) (nl B))<=A+B))/\k.2.1<=1/\(∀j,j<k.1->k.2.2 j<2^32)/\val k.1 k.2.2+k.2.1*2^(32*k.1)=val k.1 (aD A)+val k.1 (aD B))/\
    max (nl A) (nl B)+1-k.1<max (nl A) (nl B)+1-i) QF):=by
  intro s' hcont hv QF
  have hi':i<=max (nl A) (nl B):=aa
  have la:=dY (N:=A) (i:=i)
  have lb:=dY (N:=B) (i:=i)
  refine ax.hole [0] ah ?_
  show ax P c0 f125.ntmps (part jA [1,0]) s' _
  refine ax.qw (i:=1) (y:=part jA [1,0,0]) ah ?_
  refine ax.hole [1,1] ah (afX h0 hc hv fun s' hv=>cJ (adZ h0 aa hv fun s' hle=>cJ ?_))
  show aG P c0 f125.ntmps [part jA [1,1]] s' _
  refine aG.weak rfl hle (aG.bE hT fO hm 60 fj UC ah fun s' hv=>cJ ?_)
  have hs:=EX (B:=2^(32*i)) (c:=c) (z:=aD A i) (y:=aD B i) rfl hval
  refine⟨(i+1,(c+aD A i+aD B i)/4294967296,cE o i ((c+aD A i+aD B i)%4294967296)),pg (ec hv ?_ rfl) (kX h0) pK pP,⟨?_,by simp only;omega,fun j hj=>?_,?_⟩,by simp only;omega⟩
  ·rw[fE (a:=(i:Int)+1) (n:=i+1) aa aa];rfl
  ·simp only
   by_cases h:i<max (nl A) (nl B)
   ·exact .inl aa
   ·have e:i=max (nl A) (nl B):=aa
    have lA:=jZ (A:=A) (i:=i) aa
    have lB:=jZ (A:=B) (i:=i) aa
    refine .inr ⟨aa,by rw[lA,lB];omega,?_⟩
    rw[hAv aa]at hval
    have hc1:c=1:=aa
    rw[hc1,Nat.one_mul,e]at hval
    omega
  ·simp only at hj ⊢
   unfold cE
   split
   ·omega
   ·exact ho j aa
  ·simp only
   rw[tH,val,val,iS]
   omega
 -- the end
 have fin:∀{s':aK},nl A<=i->nl B<=i->c=0->bA fj s'=some (nr A B c i,mW o i)->aG P c0 f125.ntmps (behind (aF f125) [1,1,1,0,1]) s' (dH c0 (Fin T f125 (.mag (A+B)))):=by
  intro s' h1 h2 h3 hv
  have hsum:val i o=A+B:=by rw[hAv aa,h3]at hval;omega
  cases i with
  |zero=>
   have:A+B=0:=by rw[<-hsum];rfl
   refine aG.kU hT fO hm 60 hv (kX h0) pK pP ZS ah ah ?_
   rw[this]
   exact lO
  |succ i=>
   refine aG.kU hT fO hm 60 hv (kX h0) pK pP acn ah ah ?_
   refine mR ?_ fun j hj=>?_
   ·have l1:nl (A+B)<=i+1:=dF.2 (by rw[<-hsum];exact gq ho)
    have l2:¬nl (A+B)<=i:=by
     intro h
     rcases hi with hi|⟨hi,_,hi2⟩
     ·have:=iI (show A<=A+B by omega)
      have:=iI (show B<=A+B by omega)
      omega
     ·rw[dF]at h
      rw[show max (nl A) (nl B)=i by omega]at hi2
      omega
    omega
   ·rw[<-hsum,pZ ho hj];rfl
 refine ax.hole [0] ah (show ax P c0 f125.ntmps (part jA [0]) _ _ from ad6 (fun s' h hv=>cJ ?_) fun s' h1 h2 h3 hv=>rS (fZ (cJ (fin h1 h2 h3 hv))))
 show aG P c0 f125.ntmps [part jA [1]] s' _
 exact body h hv
def JI:Spec:=nO (fun A B=>.mag (A+B)) ER
theorem Yj:aU P JI 125:=qE fun h=>aaN h.1 h.2
end Go.Am.B
namespace Go.Am.B
open Go Go.Am.N AV Proofs.Tryz IntKind
theorem ajF:aW 188 f188:=aT func188
theorem aci:aW 127 f127:=aT func127
theorem ae6:aW 122 f122:=aT func122
theorem afO:aW 189 f189:=aT func189
abbrev oH:List Nat:=[0,1,5,6,7]
abbrev xK (A B c i K:Nat):List AV:=[.mag A,.mag B,.own K 1 0 (nl A),.int .u64 c,.int .i64 i]
abbrev dB (K n:Nat) (o:Nat->Nat):aC:=[(K,⟨true,true,1,n,aB o⟩)]
abbrev N9:Code:=part (aF f188) [1,1,1,0,1,0,0]
theorem U4 {A B:Nat}:aH T fG [] 60 oH (before (aF f188) [1,1,1,0,1]) ⟨aQ 0 [.mag A,.mag B],[],0⟩=
  let c1:Int:=(↑(nl A):Int);some (ag.aj [(0:Int)<=c1/\c1<=c1/\c1<=2^47/\c1*(↑(4:Nat):Int)<=2^47] (ag.leaf aq.normal ([mag A,mag B,own 12288 1 0 c1.toNat,int .u64 (0:Int),int .i64 (0:Int)],[(12288,au.mk true true 1 c1.toNat fun x=>int .u32 (0:Int))]))):=ah
theorem U8 {A B c i:Nat} {o:Nat->Nat}:aH T fG [16,23,38] 60 oH [N9] ⟨aA oH (xK A B c i 12288),dB 12288 (nl A) o,12289⟩=
  let c13:Int:=(↑c:Int);let c8:Int:=(↑i:Int);let c5:AV:=own 12288 1 0 (nl A);let c4:List AV:=[int .i64 (i64.wrap (c8+1))];let c1:Nat:=c8.toNat;let c11:Prop:=(0:Int)<=c8/\c1<nl A;let c10:List AV:=mag A::mag B::c5::int .u64 (0:Int)::c4;let c9:List AV:=mag A::mag B::c5::int .u64 (1:Int)::c4;let c7:Nat:=c1+0;let c3:Int:=u64.wrap (c13+u64.wrap (↑(aD B c1):Int));let c2:Int:=u64.wrap (↑(aD A c1):Int);let c12:Int:=u64.wrap (c2+4294967296);let c6:List Prop:=[c11,c7<nl A];some (ag.fork (decide (c8<(↑(nl A):Int))) (ag.fork (decide (c8<(↑(nl B):Int))) (ag.aj [(0:Int)<=c8/\c1<nl B] (ag.aj [c11] (ag.fork (decide (c2<c3)) (ag.aj c6 (ag.leaf aq.normal (c9,[(12288,au.mk true true 1 (nl A) fun j=>if(j==c7)=true then int .u32 (u32.wrap (u64.wrap (c12-c3)))else aB o j)]))) (ag.aj c6 (ag.leaf aq.normal (c10,[(12288,au.mk true true 1 (nl A) fun j=>if(j==c7)=true then int .u32 (u32.wrap (u64.wrap (c2-c3)))else aB o j)])))))) (ag.aj [c11] (ag.fork (decide (c2<c13)) (ag.aj c6 (ag.leaf aq.normal (c9,[(12288,au.mk true true 1 (nl A) fun j=>if(j==c7)=true then int .u32 (u32.wrap (u64.wrap (c12-c13)))else aB o j)]))) (ag.aj c6 (ag.leaf aq.normal (c10,[(12288,au.mk true true 1 (nl A) fun j=>if(j==c7)=true then int .u32 (u32.wrap (u64.wrap (c2-c13)))else aB o j)])))))) (ag.leaf (aq.exit 0) ([mag A,mag B,c5,int .u64 c13,int .i64 c8],[(12288,au.mk true true 1 (nl A) fun a=>int .u32 (↑(o a):Int))]))):=ah
theorem Rr {A B c i:Nat} {o:Nat->Nat}:cy T fG [] 60 f188 (behind (aF f188) [1,1,1,0,1]) ⟨aA oH (xK A B c i 12288),dB 12288 (nl A) o,12289⟩=
  some (ag.aj [eG (nl A) fun i=>aB o (i+0),nl A<2^40] (ag.leaf aq.ret [mag (val (nl A) fun i=>numOf (aB o (i+0)))])):=ah
abbrev lG:List Nat:=[0,1,5,6]
abbrev xx (A B i K:Nat):List AV:=[.mag A,.mag B,.own K 1 0 (nl A+nl B),.int .i64 i]
abbrev sj:List Nat:=[0,1,5,6,7,8]
abbrev Af (A B i c j K:Nat):List AV:=[.mag A,.mag B,.own K 1 0 (nl A+nl B),.int .i64 i,.int .u64 c,.int .i64 j]
abbrev qU:Code:=part (aF f122) [1,1,0,1,0,0]
abbrev uK:Code:=part qU [1,0,0]
theorem TX {A B:Nat}:aH T fG [] 60 lG (before (aF f122) [1,1,0,1]) ⟨aQ 0 [.mag A,.mag B],[],0⟩=
  let c1:Int:=i64.wrap ((↑(nl A):Int)+(↑(nl B):Int));some (ag.aj [(0:Int)<=c1/\c1<=c1/\c1<=2^47/\c1*(↑(4:Nat):Int)<=2^47] (ag.leaf aq.normal ([mag A,mag B,own 24576 1 0 c1.toNat,int .i64 (0:Int)],[(24576,au.mk true true 1 c1.toNat fun x=>int .u32 (0:Int))]))):=ah
theorem ajl {A B i:Nat} {o:Nat->Nat}:aH T fG [18] 60 lG [part qU [0]] ⟨aA lG (xx A B i 24576),dB 24576 (nl A+nl B) o,24577⟩=
  let c1:List AV×aC:=([mag A,mag B,own 24576 1 0 (nl A+nl B),int .i64 (↑i:Int)],[(24576,au.mk true true 1 (nl A+nl B) fun a=>int .u32 (↑(o a):Int))]);some (ag.fork (decide ((↑i:Int)<(↑(nl A):Int))) (ag.leaf aq.normal c1) (ag.leaf (aq.exit 0) c1)):=ah
theorem Vr {A B i:Nat} {o:Nat->Nat}:aH T fG [] 60 sj (before uK [1,0,1]) ⟨aA lG (xx A B i 24576),dB 24576 (nl A+nl B) o,24577⟩=
  some (ag.leaf aq.normal ([mag A,mag B,own 24576 1 0 (nl A+nl B),int .i64 (↑i:Int),int .u64 (0:Int),int .i64 (0:Int)],[(24576,au.mk true true 1 (nl A+nl B) fun a=>int .u32 (↑(o a):Int))])):=ah
theorem aeF {A B i c j:Nat} {o:Nat->Nat}:aH T fG [24] 60 sj [part uK [1,0,1,0,0]] ⟨aA sj (Af A B i c j 24576),dB 24576 (nl A+nl B) o,24577⟩=
  let c7:Int:=(↑i:Int);let c5:Int:=(↑j:Int);let c4:Nat:=nl A+nl B;let c6:AV:=own 24576 1 0 c4;let c1:Int:=i64.wrap (c7+c5);let c3:Nat:=c1.toNat+0;let c8:List Prop:=[(0:Int)<=c1/\c1.toNat<c4,c3<c4];let c2:Int:=u64.wrap ((↑c:Int)+u64.wrap (u64.wrap (u64.wrap (↑(aD A c7.toNat):Int)*u64.wrap (↑(aD B c5.toNat):Int))+u64.wrap (↑(o c3):Int)));some (ag.fork (decide (c5<(↑(nl B):Int))) (ag.aj (((0:Int)<=c7/\c7.toNat<nl A)::((0:Int)<=c5/\c5.toNat<nl B)::c8) (ag.aj c8 (ag.aj [(0:Int)<=32] (ag.leaf aq.normal ([mag A,mag B,c6,int .i64 c7,int .u64 (c2.fdiv ((2:Int)^min (Int.toNat (32:Int)) u64.bits)),int .i64 (i64.wrap (c5+1))],[(24576,au.mk true true 1 c4 fun j=>if(j==c3)=true then int .u32 (u32.wrap c2)else aB o j)]))))) (ag.leaf (aq.exit 2) ([mag A,mag B,c6,int .i64 c7,int .u64 (↑c:Int),int .i64 c5],[(24576,au.mk true true 1 c4 fun a=>int .u32 (↑(o a):Int))]))):=ah
theorem Vj {A B i c j:Nat} {o:Nat->Nat}:aH T fG [] 60 lG (behind uK [1,0,1]) ⟨aA sj (Af A B i c j 24576),dB 24576 (nl A+nl B) o,24577⟩=
  let c3:Nat:=nl A+nl B;let c1:Int:=i64.wrap ((↑i:Int)+(↑(nl B):Int));let c2:Nat:=c1.toNat+0;some (ag.aj [(0:Int)<=c1/\c1.toNat<c3,c2<c3] (ag.leaf aq.normal ([mag A,mag B,own 24576 1 0 c3,int .i64 (↑i:Int)],[(24576,au.mk true true 1 c3 fun j=>if(j==c2)=true then int .u32 (u32.wrap (↑c:Int))else aB o j)]))):=ah
theorem T1 {A B i:Nat} {o:Nat->Nat}:aH T fG [] 60 lG [part qU [1,1]] ⟨aA lG (xx A B i 24576),dB 24576 (nl A+nl B) o,24577⟩=
  some (ag.leaf aq.normal ([mag A,mag B,own 24576 1 0 (nl A+nl B),int .i64 (i64.wrap ((↑i:Int)+1))],[(24576,au.mk true true 1 (nl A+nl B) fun a=>int .u32 (↑(o a):Int))])):=ah
theorem VU {A B i:Nat} {o:Nat->Nat}:cy T fG [] 60 f122 (behind (aF f122) [1,1,0,1]) ⟨aA lG (xx A B i 24576),dB 24576 (nl A+nl B) o,24577⟩=
  some (ag.aj [eG (nl A+nl B) fun i=>aB o (i+0),nl A+nl B<2^40] (ag.leaf aq.ret [mag (val (nl A+nl B) fun i=>numOf (aB o (i+0)))])):=ah
abbrev tW:List Nat:=[0,1,6,7,8]
abbrev Et (A b r k K:Nat):List AV:=[.mag A,.int .u32 b,.own K 1 0 (nl A),.int .u64 r,.int .i64 ((k:Int)-1)]
abbrev Pa:Code:=part (aF f189) [1,1,1,0,1,0,0]
theorem acX {A b:Nat}:aH T fG [] 60 tW (before (aF f189) [1,1,1,0,1]) ⟨aQ 0 [.mag A,.int .u32 b],[],0⟩=
  let c1:Int:=(↑(nl A):Int);some (ag.aj [(0:Int)<=c1/\c1<=c1/\c1<=2^47/\c1*(↑(4:Nat):Int)<=2^47] (ag.leaf aq.normal ([mag A,int .u32 (↑b:Int),own 16384 1 0 c1.toNat,int .u64 (0:Int),int .i64 (i64.wrap (c1-1))],[(16384,au.mk true true 1 c1.toNat fun x=>int .u32 (0:Int))]))):=ah
theorem Y1 {A b r k:Nat} {o:Nat->Nat}:aH T fG [16] 60 tW [Pa] ⟨aA tW (Et A b r k 16384),dB 16384 (nl A) o,16385⟩=
  let c7:AV:=int .u32 (↑b:Int);let c4:AV:=own 16384 1 0 (nl A);let c3:Int:=u64.wrap (↑b:Int);let c2:Int:=(↑k:Int)-1;let c6:Prop:=(0:Int)<=c2/\c2.toNat<nl A;let c5:Nat:=c2.toNat+0;let c1:Int:=u64.wrap (↑(BitVec.ofInt u64.bits (u64.wrap ((↑r:Int)*2^min (Int.toNat (32:Int)) u64.bits))|||BitVec.ofInt u64.bits (u64.wrap (↑(aD A c2.toNat):Int))).toNat:Int);some (ag.fork (decide (c2>=0)) (ag.aj [(0:Int)<=32,c6] (ag.aj [c3≠(0:Int),c6,c5<nl A] (ag.aj [c3≠(0:Int)] (ag.leaf aq.normal ([mag A,c7,c4,int .u64 (c1.tmod c3),int .i64 (i64.wrap (c2-1))],[(16384,au.mk true true 1 (nl A) fun j=>if(j==c5)=true then int .u32 (u32.wrap (u64.wrap (c1.tdiv c3)))else aB o j)]))))) (ag.leaf (aq.exit 0) ([mag A,c7,c4,int .u64 (↑r:Int),int .i64 c2],[(16384,au.mk true true 1 (nl A) fun a=>int .u32 (↑(o a):Int))]))):=ah
theorem Wt {A b r k:Nat} {o:Nat->Nat}:cy T fG [] 60 f189 (behind (aF f189) [1,1,1,0,1]) ⟨aA tW (Et A b r k 16384),dB 16384 (nl A) o,16385⟩=
  some (ag.aj [eG (nl A) fun i=>aB o (i+0),nl A<2^40] (ag.leaf aq.ret [mag (val (nl A) fun i=>numOf (aB o (i+0))),int .u32 (u32.wrap (↑r:Int))])):=ah
def NJ:aX:=[(126,zA),(188,nO (fun A B=>.mag (A-B)) fun A B=>[B<=A,nl A<2^40])]
theorem air {A B:Nat}:bU T NJ [9] 60 f127 (aF f127) ⟨aQ 0 [.mag A,.mag B],[],0⟩=
  let c1:Nat:=2^40;some (ag.aj [nl A<c1,nl B<c1] (ag.fork (decide (cZ A B<0)) (ag.leaf aq.ret [nil,int .i64 (7:Int)]) (ag.aj [B<=A,nl A<c1] (ag.leaf aq.ret [mag (A-B),int .i64 (0:Int)])))):=ah
theorem iz {K n nx:Nat} {o:Nat->Nat} (h:K<nx):iF nx (dB K n o):=⟨⟨h,fun _ _=>rfl⟩,trivial⟩
theorem ah9 {vo va vb ai x c b' un u' B:Nat} (hx:x=c+b') (hu:un+x=ai+4294967296*u') (h:va+c*B=vo+vb):va+ai*B+u'*(4294967296*B)=vo+un*B+(vb+b'*B):=by
 have e:(un+x)*B=(ai+4294967296*u')*B:=by rw[hu]
 subst hx
 grind
theorem OU {A B:Nat} (hAB:B<=A) (hA:nl A<2^40) (K:Nat):aS P 188 K [.mag A,.mag B] [] (aJ (.mag (A-B)) []):=by
 have hB:nl B<=nl A:=iI hAB
 refine fX hT ajF rfl aV rfl (fun _ c0 h0=>?_) K []
 refine ax.hole [1,1,1,0,1] ah (aG.bE hT fO hm 60 oH U4 ah ?_)
 simp only[ag.all,az,bf]
 refine⟨aa,fun s' hv=>cJ ?_⟩
 refine ax.iH (i:=0) (y:=N9) ah oH 12289 (h0 _) (fun p:Nat×Nat×(Nat->Nat)=>xK A B p.2.1 p.1 12288) (fun p=>dB 12288 (nl A) p.2.2) (fun _=>rfl) (fun _=>iz aa)
  (fun p=>p.1<=nl A/\p.2.1<=1/\(∀j,j<nl A->p.2.2 j<2^32)/\val p.1 (aD A)+p.2.1*2^(32*p.1)=val p.1 p.2.2+val p.1 (aD B))
  (fun p=>nl A-p.1) (0,0,fun _=>0) hv ⟨by simp,by simp,fun _ _=>by simp,by simp[val]⟩ ?_
 rintro⟨i,c,o⟩ ⟨hi,hc,ho,hval⟩
 simp only at hi hc ho hval
 refine ax.bE hT fO hm 60 oH U8 ah ?_
 have la:=dY (N:=A) (i:=i)
 have lb:=dY (N:=B) (i:=i)
 have wa:u64.wrap (aD A i:Int)=((aD A i:Nat):Int):=cr aa aa
 have wb:u64.wrap (aD B i:Int)=((aD B i:Nat):Int):=cr aa aa
 have w1:u64.wrap ((c:Int)+((aD B i:Nat):Int))=((c+aD B i:Nat):Int):=by rw[cr aa aa];omega
 have w2:u64.wrap (((aD A i:Nat):Int)+4294967296)=((aD A i+4294967296:Nat):Int):=by rw[cr aa aa];omega
 have w3:i64.wrap ((i:Int)+1)=((i+1:Nat):Int):=by rw[wrap_i64 aa aa];omega
 simp only[ag.all,az,bk,bt,bf,Nat.add_zero,beq_iff_eq]
 rw[wa,wb,w1,w2,w3]
 -- what is put down
 have next:∀{s':aK} {x u':Nat} {v:Int},i<nl A->x=c+aD B i->u'<=1->x<=aD A i+4294967296*u'->aD A i+4294967296*u'<x+4294967296->v=((aD A i+4294967296*u'-x:Nat):Int)->
   bA oH s'=some (xK A B u' (i+1) 12288,[(12288,⟨true,true,1,nl A,fun j=>if j=i then .int .u32 (u32.wrap (u64.wrap v))else aB o j⟩)])->
   ∃k:Nat×Nat×(Nat->Nat),bA oH s'=some (xK A B k.2.1 k.1 12288,dB 12288 (nl A) k.2.2)/\(k.1<=nl A/\k.2.1<=1/\(∀j,j<nl A->k.2.2 j<2^32)/\val k.1 (aD A)+k.2.1*2^(32*k.1)=val k.1 k.2.2+val k.1 (aD B))/\nl A-k.1<nl A-i:=by
  intro s' x u' v hin hx hu1 h1 h2 hv1 hv
  refine⟨(i+1,u',cE o i (aD A i+4294967296*u'-x)),ec hv rfl ?_,⟨by simp only;omega,hu1,je aa ho,?_⟩,by simp only;omega⟩
  ·simp only[dB]
   congr 3
   funext k
   exact iA (by rw[hv1,cr aa aa,wrap_u32 aa aa]) k
  ·simp only
   rw[tH,val,val,iS]
   exact ah9 (b':=aD B i) (x:=x) hx aa hval
 refine⟨fun hb=>⟨fun hb2=>⟨aa,aa,fun h3=>⟨⟨aa,aa⟩,fun s' hv=>?_⟩,fun h3=>⟨⟨aa,aa⟩,fun s' hv=>?_⟩⟩,fun hb2=>⟨aa,fun h3=>⟨⟨aa,aa⟩,fun s' hv=>?_⟩,fun h3=>⟨⟨aa,aa⟩,fun s' hv=>?_⟩⟩⟩,fun hb s' hv=>fZ (cJ ?_)⟩
 ·exact next (u':=1) aa rfl aa aa aa aa hv
 ·exact next (u':=0) aa rfl aa aa aa aa hv
 ·exact next (u':=1) (x:=c) aa (by rw[jZ (A:=B) aa];rfl) aa aa aa aa hv
 ·exact next (u':=0) (x:=c) aa (by rw[jZ (A:=B) aa];rfl) aa aa aa aa hv
 ·have hin:i=nl A:=aa
  refine aG.kU hT fO hm 60 hv (h0 _) rfl (iz aa) Rr ah ah ?_
  simp only[ag.all,az,Nat.add_zero,kq]
  refine⟨⟨gV ho,hA⟩,dX (congrArg AV.mag ?_)⟩
  rw[hin,gI,qi (dF.1 hB)]at hval
  have hlt:=gq ho
  have:c=0:=by
   rcases Nat.eq_zero_or_pos c with h|h
   ·exact h
   ·exfalso
    have h1:1*2^(32*nl A)<=c*2^(32*nl A):=Nat.mul_le_mul_right _ h
    omega
  rw[this]at hval
  omega
theorem aaS:bq P NJ:=aI AE (aI (qE fun h=>OU h.1 h.2) bB)
theorem ach {A B:Nat} (hA:nl A<2^40) (hB:nl B<2^40) (K:Nat):aS P 127 K [.mag A,.mag B] [] (aJ (.tuple [.mag (A-B),.int .i64 (if A<B then 7 else 0)]) []):=by
 refine bX hT aaS hm aci rfl aV rfl 60 air (fun _=>?_) K []
 simp only[ag.all,az,bk,bt,AN]
 refine⟨⟨hA,hB⟩,fun h=>⟨?_,bS (by rw[if_pos h]),trivial⟩,fun h=>⟨⟨aa,hA⟩,.refl _,bS (by rw[if_neg h]),trivial⟩⟩
 rw[Nat.sub_eq_zero_of_le aa];exact lO
def Qt:Spec:=nO (fun A B=>.tuple [.mag (A-B),.int .i64 (if A<B then 7 else 0)]) ER
theorem Ra:aU P Qt 127:=qE fun h=>ach h.1 h.2
theorem ahG {A B:Nat} (hA:nl A<2^39) (hB:nl B<2^39) (K:Nat):aS P 122 K [.mag A,.mag B] [] (aJ (.mag (A*B)) []):=by
 refine fX hT ae6 rfl aV rfl (fun _ c0 h0=>?_) K []
 refine ax.hole [1,1,0,1] ah (aG.bE hT fO hm 60 lG TX ah ?_)
 have hw:i64.wrap ((nl A:Int)+(nl B:Int))=((nl A+nl B:Nat):Int):=fE aa aa
 rw[hw]
 simp only[ag.all,az,bf]
 refine⟨aa,fun s' hv=>cJ ?_⟩
 refine ax.iH (i:=0) (y:=qU) ah lG 24577 (h0 _) (fun p:Nat×(Nat->Nat)=>xx A B p.1 24576) (fun p=>dB 24576 (nl A+nl B) p.2) (fun _=>rfl) (fun _=>iz aa)
  (fun p=>p.1<=nl A/\(∀j,j<nl A+nl B->p.2 j<2^32)/\(∀j,p.1+nl B<=j->p.2 j=0)/\val (nl A+nl B) p.2=val p.1 (aD A)*B)
  (fun p=>nl A-p.1) (0,fun _=>0) hv ⟨by simp,fun _ _=>by simp,fun _ _=>rfl,?_⟩ ?_
 ·simp only
  rw[val_zero fun _ _=>rfl]
  simp[val]
 rintro⟨i,o⟩ ⟨hi,ho,ho0,hval⟩
 simp only at hi ho ho0 hval
 refine ax.hole [0] ah (show ax P c0 f122.ntmps (part qU [0]) _ _ from ax.bE hT fO hm 60 lG ajl ah ?_)
 simp only[ag.all,bk,bt]
 refine⟨fun h1 s' hv=>cJ ?_,fun h1 s' hv=>rS (fZ (cJ ?_))⟩
 ·have hin:i<nl A:=aa
  have la:=dY (N:=A) (i:=i)
  show aG P c0 f122.ntmps [part qU [1]] s' _
  refine ax.hole [0] ah ?_
  show ax P c0 f122.ntmps (part qU [1,0]) s' _
  refine ax.qw (i:=1) (y:=uK) ah (ax.kV hv (h0 24577) rfl (iz aa) ?_)
  refine ax.hole [1,0,1] ah (aG.bE hT fO hm 60 sj Vr ah fun s' hv=>cJ ?_)
  refine ax.iH (i:=2) (y:=part uK [1,0,1,0,0]) ah sj 24577 (h0 _) (fun p:Nat×Nat×(Nat->Nat)=>Af A B i p.2.1 p.1 24576) (fun p=>dB 24576 (nl A+nl B) p.2.2) (fun _=>rfl) (fun _=>iz aa)
   (fun p=>p.1<=nl B/\p.2.1<2^32/\(∀j,j<nl A+nl B->p.2.2 j<2^32)/\(∀j,i+nl B<=j->p.2.2 j=0)/\val (nl A+nl B) p.2.2+p.2.1*2^(32*(i+p.1))=val i (aD A)*B+aD A i*val p.1 (aD B)*2^(32*i))
   (fun p=>nl B-p.1) (0,0,o) hv ⟨by simp,by simp,ho,ho0,by simp[val,hval]⟩ ?_
  rintro⟨j,c,o⟩ ⟨hj,hc,ho,ho0,hval⟩
  simp only at hj hc ho ho0 hval
  refine ax.bE hT fO hm 60 sj aeF ah ?_
  have hij:i64.wrap ((i:Int)+(j:Int))=((i+j:Nat):Int):=fE aa aa
  have lb:=dY (N:=B) (i:=j)
  simp only[ag.all,az,bk,bt,hij,bf,Nat.add_zero,beq_iff_eq]
  refine⟨fun h2=>?_,fun h2 s' hv=>fZ ?_⟩
  ·have hjm:j<nl B:=aa
   obtain⟨m1,m2,m3⟩:=LX hc la lb (ho (i+j) aa)
   rw[m1]
   refine⟨⟨aa,aa,aa,aa⟩,⟨aa,aa⟩,aa,fun s' hv=>⟨(j+1,(c+aD A i*aD B j+o (i+j))/4294967296,cE o (i+j) ((c+aD A i*aD B j+o (i+j))%4294967296)),ec hv ?_ ?_,⟨by simp only;omega,m3,je aa ho,fun k hk=>?_,?_⟩,by simp only;omega⟩⟩
   ·rw[mq,fE (a:=(j:Int)+1) (n:=j+1) aa aa]
    simp only[Af,List.cons.injEq,AV.int.injEq,and_true,true_and]
    omega
   ·simp only[dB]
    congr 3
    funext k
    exact iA (by rw[kE]) k
   ·exact(gn aa).trans (ho0 k hk)
   ·simp only
    rw[show 32*(i+(j+1))=32*((i+j)+1) by omega,iS,val]
    have hset:=EC (o:=o) (x:=(c+aD A i*aD B j+o (i+j))%4294967296) (show i+j<nl A+nl B by omega)
    exact PO rfl (Nat.div_add_mod _ _) hset (by rw[<-Nat.pow_add];congr 1;omega) hval
  ·show aG P c0 f122.ntmps (behind uK [1,0,1]) s' _
   have hjm:j=nl B:=aa
   have hib:i64.wrap ((i:Int)+(nl B:Int))=((i+nl B:Nat):Int):=fE aa aa
   refine aG.fS hT fO hm 60 hv (h0 24577) rfl (iz aa) lG Vj ah ah ?_
   rw[hib]
   simp only[ag.all,az,bf,Nat.add_zero,beq_iff_eq]
   refine⟨⟨aa,aa⟩,fun s' hv=>?_⟩
   have hf:(fun k=>if k=i+nl B then AV.int .u32 (u32.wrap (c:Int))else aB o k)=aB (cE o (i+nl B) c):=by
    funext k
    exact iA (wrap_u32 aa aa) k
   rw[hf]at hv
   show aG P c0 f122.ntmps [part qU [1,1]] s' _
   refine aG.fS hT fO hm 60 hv (h0 24577) rfl (iz aa) lG T1 ah ah fun s' hv=>cJ ?_
   refine⟨(i+1,cE o (i+nl B) c),ec hv ?_ rfl,⟨by simp only;omega,je hc ho,fun k hk=>(gn (by simp only at hk;omega)).trans (ho0 k (by simp only at hk;omega)),?_⟩,by simp only;omega⟩
   ·rw[fE (a:=(i:Int)+1) (n:=i+1) aa aa]
   ·simp only
    rw[hjm,gI]at hval
    rw[tV aa (ho0 _ aa),hval,val,Nat.add_mul,Nat.mul_assoc,Nat.mul_assoc,Nat.mul_comm B]
 ·have hin:i=nl A:=aa
  refine aG.kU hT fO hm 60 hv (h0 _) rfl (iz aa) VU ah ah ?_
  simp only[ag.all,az,Nat.add_zero,kq]
  refine⟨⟨gV ho,aa⟩,dX (congrArg AV.mag ?_)⟩
  rw[hval,hin,gI]
def Ho:Spec:=nO (fun A B=>.mag (A*B)) fun A B=>[nl A<2^39,nl B<2^39]
theorem LF:aU P Ho 122:=qE fun h=>ahG h.1 h.2
theorem Kt {v b r A:Nat} (h:v*b+r=A) (hr:r<b):A/b=v/\A%b=r:=by
 subst h
 refine⟨?_,?_⟩
 ·rw[Nat.mul_comm,Nat.mul_add_div aa,Nat.div_eq_of_lt hr,Nat.add_zero]
 ·rw[Nat.mul_comm,Nat.mul_add_mod,Nat.mod_eq_of_lt hr]
theorem TU {A b:Nat} (hA:nl A<2^40) (hb0:0<b) (hb32:b<2^32) (K:Nat):aS P 189 K [.mag A,.int .u32 b] [] (aJ (.tuple [.mag (A/b),.int .u32 (A%b:Nat)]) []):=by
 refine fX hT afO rfl aV rfl (fun _ c0 h0=>?_) K []
 refine ax.hole [1,1,1,0,1] ah (aG.bE hT fO hm 60 tW acX ah ?_)
 simp only[ag.all,az,bf]
 refine⟨aa,fun s' hv=>cJ ?_⟩
 refine ax.iH (i:=0) (y:=Pa) ah tW 16385 (h0 _) (fun p:Nat×Nat×(Nat->Nat)=>Et A b p.2.1 p.1 16384) (fun p=>dB 16384 (nl A) p.2.2) (fun _=>rfl) (fun _=>iz aa)
  (fun p=>p.1<=nl A/\p.2.1<b/\(∀j,j<nl A->p.2.2 j<2^32)/\(∀j,j<p.1->p.2.2 j=0)/\val (nl A) p.2.2*b+p.2.1*2^(32*p.1)+val p.1 (aD A)=A)
  (fun p=>p.1) (nl A,0,fun _=>0) (ec hv (by rw[wrap_i64 aa aa];rfl) rfl) ⟨by simp,hb0,fun j _=>by simp,fun j _=>rfl,?_⟩ ?_
 ·simp only
  rw[val_zero fun _ _=>rfl,gI]
  simp
 rintro⟨k,r,o⟩ ⟨hk,hr,ho,ho0,hval⟩
 simp only at hk hr ho ho0 hval
 refine ax.bE hT fO hm 60 tW Y1 ah ?_
 simp only[ag.all,az,bk,bt,Nat.add_zero,beq_iff_eq]
 have hbw:u64.wrap (b:Int)=(b:Int):=cr aa aa
 refine⟨fun hb=>?_,fun hb s' hv=>fZ (cJ ?_)⟩
 ·obtain⟨j,rfl⟩:∃j,k=j+1:=⟨k-1,aa⟩
  have e:(((j+1:Nat):Int)-1).toNat=j:=aa
  have hzj:=dY (N:=A) (i:=j)
  have hor:=vv (a:=r) (b:=aD A j) aa hzj
  rw[e,hor,hbw]
  have hq1:(r*4294967296+aD A j)/b<2^32:=by
   rw[Nat.div_lt_iff_lt_mul hb0]
   have:(r+1)*4294967296<=b*4294967296:=Nat.mul_le_mul_right _ hr
   omega
  have hdm:=Nat.div_add_mod (r*4294967296+aD A j) b
  refine⟨⟨aa,aa,aa⟩,⟨aa,⟨aa,aa⟩,aa⟩,aa,fun s' hv=>⟨(j,(r*4294967296+aD A j)%b,cE o j ((r*4294967296+aD A j)/b)),ec hv ?_ ?_,⟨by simp only;omega,Nat.mod_lt _ hb0,je hq1 ho,fun i hi=>?_,?_⟩,by simp only;omega⟩⟩
  ·rw[<-Int.ofNat_tmod,wrap_i64 aa aa,show((j+1:Nat):Int)-1-1=(j:Int)-1 by omega]
  ·simp only[dB]
   congr 3
   funext i
   refine iA ?_ i
   rw[<-Int.ofNat_tdiv]
   clear hdm
   generalize (r*4294967296+aD A j)/b=q at hq1 ⊢
   rw[cr aa aa,wrap_u32 aa aa]
  ·exact(gn (by simp only at hi;omega)).trans (ho0 i (by simp only at hi;omega))
  ·simp only
   rw[tV aa (ho0 j aa)]
   rw[iS,val]at hval
   exact Jd hval hdm.symm
 ·have hk0:k=0:=aa
  have hv2:val (nl A) o*b+r=A:=by rw[hk0]at hval;simpa [val]using hval
  refine aG.kU hT fO hm 60 hv (h0 _) rfl (iz aa) Wt ah ah ?_
  simp only[ag.all,az,Nat.add_zero,kq]
  obtain⟨hdiv,hmod⟩:=Kt hv2 hr
  exact⟨⟨gV ho,hA⟩,dX (congrArg AV.mag hdiv.symm),bS (by rw[hmod,wrap_u32 aa aa]),trivial⟩
def Dh:Spec:=bY fun l=>match l with
 |[a,.int .u32 b]=>match jt a with
  |some A=>some (aJ (.tuple [.mag (A/b.toNat),.int .u32 (A%b.toNat:Nat)]) [nl A<2^40,0<b,b<2^32])
  |none=>none
 |_=>none
theorem Lf:aU P Dh 189:=by
 refine cF fun K args r hk hs _=>?_
 split at hs
 ·rename_i a b
  split at hs
  ·rename_i A hA
   simp only[ay]at hs
   subst hs
   intro need
   obtain⟨h1,h2,h3⟩:nl A<2^40/\0<b/\b<2^32:=need
   obtain⟨b,rfl⟩:=Int.eq_ofNat_of_zero_le (Int.le_of_lt h2)
   exact iD (TU h1 aa aa K) hk ⟨mE hA,.refl _,trivial⟩ [] trivial
  ·simp at hs
 ·simp at hs
theorem YL:aW 229 f229:=aT func229
theorem W2:aW 230 f230:=aT func230
theorem acJ:aW 231 f231:=aT func231
theorem Yp:aW 232 f232:=aT func232
abbrev rJ:List Nat:=[0,1,5,6,7]
abbrev Bx (A n l c i K:Nat):List AV:=[.mag A,.int .i64 n,.own K 1 0 l,.int .u64 c,.int .i64 i]
abbrev Mi:Code:=part (aF f229) [1,1,1,0,1,0,0]
def K6:aX:=[(185,ud),(190,wY),(122,Ho)]
theorem VR:bq P K6:=aI zD (aI Cq (aI LF bB))
theorem aa1 {A n:Nat}:aH T fG [] 60 rJ (before (aF f229) [1,1,1,0,1]) ⟨aQ 0 [.mag A,.int .i64 n],[],0⟩=
  let c1:Int:=i64.wrap ((↑n:Int).tdiv (32:Int));some (ag.aj [(32:Int)≠(0:Int),(0:Int)<=c1/\c1<=c1/\c1<=2^47/\c1*(↑(4:Nat):Int)<=2^47] (ag.leaf aq.normal ([mag A,int .i64 (↑n:Int),own 12288 1 0 c1.toNat,int .u64 (0:Int),int .i64 (0:Int)],[(12288,au.mk true true 1 c1.toNat fun x=>int .u32 (0:Int))]))):=ah
theorem adG {A n l c i:Nat} {o:Nat->Nat}:aH T fG [14] 60 rJ [Mi] ⟨aA rJ (Bx A n l c i 7),dB 7 l o,8⟩=
  let c4:Int:=(↑n:Int).tmod (32:Int);let c3:AV:=int .i64 (↑n:Int);let c2:Int:=(↑i:Int);let c1:Int:=u64.wrap (↑(BitVec.ofInt u64.bits (↑c:Int)|||BitVec.ofInt u64.bits (u64.wrap (u64.wrap (↑(aD A c2.toNat):Int)*2^min c4.toNat u64.bits))).toNat:Int);some (ag.fork (decide (c2<(↑(nl A):Int))) (ag.aj [(0:Int)<=c2/\c2.toNat<nl A,(32:Int)≠(0:Int),(0:Int)<=c4] (ag.aj [(1:Nat)*1<=2^24,(l+1)*((4:Nat)+1)*2<=2^47] (ag.aj [(0:Int)<=32] (ag.leaf aq.normal ([mag A,c3,own 77832 1 0 (l+1),int .u64 (c1.fdiv ((2:Int)^min (Int.toNat (32:Int)) u64.bits)),int .i64 (i64.wrap (c2+1))],[(77832,au.mk true true 1 (l+1) fun i=>if i<l then aB o i else nth [int .u32 (u32.wrap c1)] (int .u32 (0:Int)) (i-l+0))]))))) (ag.leaf (aq.exit 0) ([mag A,c3,own 7 1 0 l,int .u64 (↑c:Int),int .i64 c2],[(7,au.mk true true 1 l fun a=>int .u32 (↑(o a):Int))]))):=ah
theorem adT {A n l c i:Nat} {o:Nat->Nat}:cy T fG [] 60 f229 (behind (aF f229) [1,1,1,0,1]) ⟨aA rJ (Bx A n l c i 7),dB 7 l o,8⟩=
  let c3:AV:=int .u32 (0:Int);let c2:Nat:=l+1;let c1:AV:=int .u32 (u32.wrap (↑c:Int));some (ag.aj [(1:Nat)*1<=2^24,c2*((4:Nat)+1)*2<=2^47,eG c2 fun i=>if i+0<l then aB o (i+0)else nth [c1] c3 (i+0-l+0),c2<2^40] (ag.leaf aq.ret [mag (val c2 fun i=>numOf (if i+0<l then aB o (i+0)else nth [c1] c3 (i+0-l+0)))])):=ah
theorem Vh {A n:Nat}:bU T fG [7] 60 f230 (aF f230) ⟨aQ 0 [.mag A,.int .i64 n],[],0⟩=
  let c1:Int:=(↑n:Int);some (ag.fork ((↑(nl A):Int)==0) (ag.leaf aq.ret [nil]) (ag.aj [(0:Int)<=c1/\c1<=c1/\c1<=2^47/\c1*(↑(4:Nat):Int)<=2^47,(c1.toNat+nl A)*((4:Nat)+1)*2<=2^47] (ag.leaf aq.ret [ak 1 (c1.toNat+nl A) fun i=>if i+0<c1.toNat then int .u32 (0:Int)else int .u32 (↑(aD A (i+0-c1.toNat)):Int)]))):=ah
theorem ahp {A b:Nat}:bU T K6 [] 60 f231 (aF f231) ⟨aQ 0 [.mag A,.int .u32 b],[],0⟩=
  let c1:Int:=u64.wrap (↑b:Int);some (ag.aj [(0:Int)<=c1/\c1<2^64,nl A<2^39,nl c1.toNat<2^39] (ag.leaf aq.ret [mag (A*c1.toNat)])):=ah
abbrev nZ:List Nat:=[0,1,5,6]
abbrev zu (a:Nat->Nat) (l n i K:Nat):List AV:=[.ak 1 l (aB a),.int .i64 n,.own K 1 0 l,.int .i64 i]
abbrev J3:Code:=part (aF f232) [1,1,1,1,0,1,0,0]
theorem ain {A n:Nat}:aH T fG [12] 60 (nZ++[4]) (before (aF f232) [1,1,1,1,0,1]) ⟨aQ 0 [.mag A,.int .i64 n],[],0⟩=
  let c5:AV:=int .i64 (↑n:Int);let c3:Int:=(↑(nl A):Int);let c2:Int:=i64.wrap ((↑n:Int).tdiv (32:Int));let c1:Nat:=c3.toNat-c2.toNat;let c4:Int:=(↑c1:Int);some (ag.aj [(32:Int)≠(0:Int)] (ag.fork (decide (c2>=c3)) (ag.leaf aq.ret ([mag A,c5,tuple [],tuple [],nil],[])) (ag.aj [(32:Int)≠(0:Int),(0:Int)<=c2/\c2<=c3/\c3<=c3/\c3<=c3] (ag.aj [(0:Int)<=c4/\c4<=c4/\c4<=2^47/\c4*(↑(4:Nat):Int)<=2^47] (ag.leaf aq.normal ([ak 1 c1 fun i=>int .u32 (↑(aD A (i+c2.toNat)):Int),c5,own 53248 1 0 c4.toNat,int .i64 (0:Int),nil],[(53248,au.mk true true 1 c4.toNat fun x=>int .u32 (0:Int))])))))):=ah
theorem aeG {n l i:Nat} {a o:Nat->Nat}:aH T fG [23,35] 60 nZ [J3] ⟨aA nZ (zu a l n i 7),dB 7 l o,8⟩=
  let c13:Int:=(↑l:Int);let c12:Int:=(↑n:Int).tmod (32:Int);let c11:AV:=int .i64 (↑n:Int);let c9:AV:=own 7 1 0 l;let c8:Int:=(↑i:Int);let c6:AV:=ak 1 l fun a_1=>int .u32 (↑(a a_1):Int);let c5:Int:=(2:Int)^min c12.toNat u64.bits;let c4:Nat:=c8.toNat;let c1:Int:=i64.wrap (c8+1);let c10:Int:=u64.wrap (↑(a c4):Int);let c7:Nat:=c4+0;let c2:List AV:=[c6,c11,c9,int .i64 c1];let c3:List Prop:=[(32:Int)≠(0:Int),(0:Int)<=c12,(0:Int)<=c8/\c4<l,c7<l];some (ag.fork (decide (c8<c13)) (ag.aj [(0:Int)<=c8/\c4<l] (ag.fork (decide (c1<c13)) (ag.aj [(0:Int)<=c1/\c1.toNat<l,(0:Int)<=32] (ag.aj c3 (ag.leaf aq.normal (c2,[(7,au.mk true true 1 l fun j=>if(j==c7)=true then int .u32 (u32.wrap ((u64.wrap (↑(BitVec.ofInt u64.bits c10|||BitVec.ofInt u64.bits (u64.wrap (u64.wrap (↑(a c1.toNat):Int)*2^min (Int.toNat (32:Int)) u64.bits))).toNat:Int)).fdiv c5))else aB o j)])))) (ag.aj c3 (ag.leaf aq.normal (c2,[(7,au.mk true true 1 l fun j=>if(j==c7)=true then int .u32 (u32.wrap (c10.fdiv c5))else aB o j)]))))) (ag.leaf (aq.exit 0) ([c6,c11,c9,int .i64 c8],[(7,au.mk true true 1 l fun a=>int .u32 (↑(o a):Int))]))):=ah
theorem Q3 {n l i:Nat} {a o:Nat->Nat}:cy T fG [] 60 f232 (behind (aF f232) [1,1,1,1,0,1]) ⟨aA nZ (zu a l n i 7),dB 7 l o,8⟩=
  some (ag.aj [eG l fun i=>aB o (i+0),l<2^40] (ag.leaf aq.ret [mag (val l fun i=>numOf (aB o (i+0)))])):=ah
theorem Cn {c:Ctx} (h0:∀nx k x,c.k0 k=some x->k<nx):c.k0=bG:=by
 funext k
 cases hk:c.k0 k with
 |none=>rfl
 |some x=>have:=h0 0 k x hk;omega
theorem L7 {o:Nat->Nat} {l:Nat} {v:Int} {x:Nat} (hv:v=(x:Nat)) {j:Nat} (hj:j<l+1):(if j<l then aB o j else nth [.int .u32 v] (.int .u32 0) (j-l))=aB (cE o l x) j:=by
 by_cases h:j<l
 ·rw[if_pos h];unfold aB;rw[gn aa]
 ·have:j=l:=aa
  subst this
  rw[if_neg h,hv]
  simp[nth,aB,kP]
theorem WU {A n:Nat} (hA:nl A<2^39) (hn:n<2^43) (K:Nat):aS P 229 K [.mag A,.int .i64 n] [] (aJ (.mag (A*2^n)) []):=by
 refine fX hT YL rfl aV rfl (fun _ c0 h0=>?_) K []
 have hk0:=Cn h0
 refine ax.hole [1,1,1,0,1] ah (aG.bE hT fO hm 60 rJ aa1 ah ?_)
 have hw:i64.wrap ((n:Int).tdiv 32)=((n/32:Nat):Int):=by
  rw[show(n:Int).tdiv 32=((n/32:Nat):Int)from(Int.ofNat_tdiv n 32).symm]
  exact fE rfl aa
 have hmd:(n:Int).tmod 32=((n%32:Nat):Int):=(Int.ofNat_tmod n 32).symm
 rw[hw]
 obtain⟨k,hk⟩:∃k,k=n/32:=⟨_,rfl⟩
 obtain⟨s,hs⟩:∃s,s=n%32:=⟨_,rfl⟩
 rw[<-hs]at hmd
 rw[<-hk]
 simp only[ag.all,az,bf]
 refine⟨aa,fun s' hv=>cJ ?_⟩
 refine ax.jq (i:=0) (y:=Mi) ah (fun p:Nat×Nat×(Nat->Nat)=>⟨aA rJ (Bx A n (k+p.1) p.2.1 p.1 7),dB 7 (k+p.1) p.2.2,8⟩)
  (fun p=>p.1<=nl A/\p.2.1<2^s/\(∀j,j<k+p.1->p.2.2 j<2^32)/\val (k+p.1) p.2.2+p.2.1*2^(32*(k+p.1))=val p.1 (aD A)*2^(32*k)*2^s)
  (fun p=>nl A-p.1) (0,0,fun _=>0)
  (dL [(7,12288)] hv hk0 rfl ⟨aL,aL,⟨rfl,cP rfl rfl rfl⟩,aL,aL,trivial⟩ ⟨⟨_,_,rfl,rfl,gi rfl fun j _=>rfl⟩,trivial⟩)
  ⟨by simp,Nat.two_pow_pos s,fun _ _=>by simp,?_⟩ ?_
 ·simp only
  rw[val_zero fun _ _=>rfl]
  simp[val]
 rintro⟨i,c,o⟩ ⟨hi,hc,ho,hval⟩
 simp only at hi hc ho hval
 have hs32:s<32:=aa
 have h31:2^s<=2^31:=Nat.pow_le_pow_right aa aa
 have hzi:=dY (N:=A) (i:=i)
 refine ax.bE hT fO hm 60 rJ adG ah ?_
 rw[hmd]
 have hor:=MI hs32 hzi hc
 obtain⟨b1,b2⟩:=MY hs32 hzi hc
 simp only[ag.all,az,bk,bt,bf,Nat.add_zero]at hor ⊢
 rw[hor]
 refine⟨fun hb=>⟨⟨aa,aa,aa⟩,⟨aa,aa⟩,aa,fun s' hv=>⟨(i+1,(c+aD A i*2^s)/4294967296,cE o (k+i) ((c+aD A i*2^s)%4294967296)),?_,⟨by simp only;omega,b2,fun j hj=>?_,?_⟩,by simp only;omega⟩⟩,fun hb s' hv=>fZ ?_⟩
 ·refine dL (vs:=Bx A n (k+(i+1)) ((c+aD A i*2^s)/4294967296) (i+1) 7) (ps:=dB 7 (k+(i+1)) (cE o (k+i) ((c+aD A i*2^s)%4294967296))) [(7,77832)] hv hk0 rfl ⟨aL,aL,⟨rfl,cP rfl rfl rfl⟩,⟨rfl,gQ ?_⟩,⟨rfl,gQ ?_⟩,trivial⟩
   ⟨⟨_,_,rfl,rfl,gi rfl fun j hj=>L7 (by rw[kE]) aa⟩,trivial⟩
  ·rw[mq];omega
  ·rw[wrap_i64 aa aa];omega
 ·simp only at hj ⊢
  unfold cE
  split
  ·omega
  ·exact ho j aa
 ·simp only
  have:=OG (x:=aD A i) hval
  rw[show k+(i+1)=(k+i)+1 by omega,tH,iS,this,val]
  congr 1
  rw[Nat.add_mul,Nat.mul_assoc,<-Nat.pow_add,show 32*i+32*k=32*(k+i) by omega]
 ·have hin:i=nl A:=aa
  show aG P c0 f229.ntmps (behind (aF f229) [1,1,1,0,1]) s' _
  refine aG.kU hT fO hm 60 hv (h0 _) rfl (iz aa) adT ah ah ?_
  simp only[ag.all,az,Nat.add_zero]
  have ho':∀j,j<k+i+1->cE o (k+i) c j<2^32:=fun j hj=>by
   unfold cE
   split
   ·omega
   ·exact ho j aa
  have e:∀j,j<k+i+1->(if j<k+i then aB o j else nth [.int .u32 (u32.wrap (c:Int))] (.int .u32 0) (j-(k+i)))=aB (cE o (k+i) c) j:=fun j hj=>L7 (wrap_u32 aa aa) hj
  refine⟨⟨aa,aa,fun j hj=>?_,aa⟩,dX (congrArg AV.mag ?_)⟩
  ·exact⟨_,ho' j hj,e j hj⟩
  ·rw[val_congr (y:=cE o (k+i) c) fun j hj=>(congrArg numOf (e j hj)).trans FA,tH,hval,hin,gI,Nat.mul_assoc,<-Nat.pow_add]
   congr 2
   omega
def Jv:Spec:=bY fun l=>match l with
 |[a,.int .i64 n]=>match jt a with
  |some A=>some (aJ (.mag (A*2^n.toNat)) [nl A<2^39,0<=n,n<2^43])
  |none=>none
 |_=>none
theorem Ea {f:FuncId} {g:Nat->Int->AV} {l:Nat->List Prop} {m:Int} (h:∀{A n:Nat},az (l A)->(n:Int)<m->∀K,aS P f K [.mag A,.int .i64 n] [] (aJ (g A n) [])):∀K args pre r,bY (fun a=>match a with
 |[a,.int .i64 n]=>match jt a with
  |some A=>some (aJ (g A n) (l A++[0<=n,n<m]))
  |none=>none
 |_=>none) K args pre=some r->aS P f K args pre r:=by
 refine cF fun K args r hk hs _=>?_
 split at hs
 ·split at hs
  ·rename_i A hA
   simp only[ay]at hs
   subst hs
   intro need
   obtain⟨h1,h2,h3⟩:=fD.1 need
   rename_i n _
   obtain⟨n,rfl⟩:=Int.eq_ofNat_of_zero_le h2
   exact iD (h h1 h3 K) hk ⟨mE hA,.refl _,trivial⟩ [] trivial
  ·simp at hs
 ·simp at hs
theorem Sv:aU P Jv 229:=
 Ea (g:=fun A n=>.mag (A*2^n.toNat)) (l:=fun A=>[nl A<2^39]) (m:=2^43) fun {A n} h hn K=>by
  have:=WU (A:=A) (n:=n) h aa K
  simpa using this
theorem Tq {A n:Nat} (hA:nl A<2^40) (hn:n<2^40) (K:Nat):aS P 230 K [.mag A,.int .i64 n] [] (aJ (.mag (A*2^(32*n))) []):=by
 refine bX hT fO hm W2 rfl aV rfl 60 Vh (fun _=>?_) K []
 simp only[ag.all,az,beq_iff_eq,beq_eq_false_iff_ne,ne_eq,bf,Nat.add_zero]
 refine⟨fun hb=>?_,fun hb=>⟨⟨aa,aa⟩,?_⟩⟩
 ·have:A=0:=j5.1 aa
  subst this
  rw[Nat.zero_mul];exact lO
 ·have hA0:A≠0:=fun h=>hb (by rw[h];rfl)
  have hlt:A*2^(32*n)<2^(32*(n+nl A)):=by
   rw[show 32*(n+nl A)=32*nl A+32*n by omega,Nat.pow_add]
   exact(Nat.mul_lt_mul_right (Nat.two_pow_pos _)).2 oD
  have hval:A*2^(32*n)=val (n+nl A) (fun i=>if i<n then 0 else aD A (i-n)):=by
   rw[val_add,val_zero fun i hi=>if_pos hi,Nat.zero_add]
   congr 1
   have:=gI (N:=A)
   conv=>lhs;rw[<-this]
   exact val_congr fun i hi=>by rw[if_neg aa];congr 1;omega
  have hz:∀i,i<n+nl A->(if i<n then 0 else aD A (i-n))<2^32:=fun i _=>by
   split
   ·omega
   ·exact dY
  refine mR ?_ fun i hi=>?_
  ·rw[hval]
   refine zS hz (.inr ?_)
   have hp:=g9.2 hA0
   rw[if_neg aa,show n+nl A-1-n=nl A-1 by omega]
   exact Bo hA0
  ·rw[hval,pZ hz hi]
   split<;>rfl
def HE:Spec:=bY fun l=>match l with
 |[a,.int .i64 n]=>match jt a with
  |some A=>some (aJ (.mag (A*2^(32*n.toNat))) [nl A<2^40,0<=n,n<2^40])
  |none=>none
 |_=>none
theorem afG:aU P HE 230:=
 Ea (g:=fun A n=>.mag (A*2^(32*n.toNat))) (l:=fun A=>[nl A<2^40]) (m:=2^40) fun {A n} h hn K=>by
  have:=Tq (A:=A) (n:=n) h aa K
  simpa using this
theorem Z4 {A b:Nat} (hA:nl A<2^39) (hb:b<2^32) (K:Nat):aS P 231 K [.mag A,.int .u32 b] [] (aJ (.mag (A*b)) []):=by
 refine bX hT VR hm acJ rfl aV rfl 60 ahp (fun _=>?_) K []
 have e:u64.wrap (b:Int)=(b:Int):=cr aa aa
 rw[e]
 simp only[ag.all,az,bf]
 have:nl b<=1:=dF.2 aa
 exact⟨⟨aa,hA,aa⟩,.refl _⟩
def M0:Spec:=bY fun l=>match l with
 |[a,.int .u32 b]=>match jt a with
  |some A=>some (aJ (.mag (A*b.toNat)) [nl A<2^39,0<=b,b<2^32])
  |none=>none
 |_=>none
theorem ah2:aU P M0 231:=by
 refine cF fun K args r hk hs _=>?_
 split at hs
 ·rename_i a b
  split at hs
  ·rename_i A hA
   simp only[ay]at hs
   subst hs
   intro need
   obtain⟨h1,h2,h3⟩:nl A<2^39/\0<=b/\b<2^32:=need
   obtain⟨b,rfl⟩:=Int.eq_ofNat_of_zero_le h2
   exact iD (Z4 h1 aa K) hk ⟨mE hA,.refl _,trivial⟩ [] trivial
  ·simp at hs
 ·simp at hs
theorem ahY {A k i:Nat}:aD A (i+k)=aD (A/2^(32*k)) i:=by
 unfold aD
 rw[Nat.div_div_eq_div_mul,<-Nat.pow_add]
 congr 3
 omega
theorem adV {a b s:Nat} (ha:a<2^32) (hb:b<2^32) (hs:s<32):(b*4294967296+a)/2^s%4294967296=a/2^s+b%2^s*2^(32-s):=by
 have:=wA (R:=b*4294967296+a) (k:=0) hs
 have l0:aD (b*4294967296+a) 0=a:=by unfold aD;simp;omega
 have l1:aD (b*4294967296+a) (0+1)=b:=by unfold aD;simp;omega
 rw[l0,l1]at this
 rw[<-this]
 unfold aD
 simp
theorem abc {A n:Nat} (hA:nl A<2^40) (hn:n<2^62) (K:Nat):aS P 232 K [.mag A,.int .i64 n] [] (aJ (.mag (A/2^n)) []):=by
 refine fX hT Yp rfl aV rfl (fun _ c0 h0=>?_) K []
 have hk0:=Cn h0
 refine ax.hole [1,1,1,1,0,1] ah (aG.bE hT fO hm 60 (nZ++[4]) ain ah ?_)
 have hw:i64.wrap ((n:Int).tdiv 32)=((n/32:Nat):Int):=by
  rw[show(n:Int).tdiv 32=((n/32:Nat):Int)from(Int.ofNat_tdiv n 32).symm]
  exact fE rfl aa
 have hmd:(n:Int).tmod 32=((n%32:Nat):Int):=(Int.ofNat_tmod n 32).symm
 rw[hw]
 obtain⟨k,hk⟩:∃k,k=n/32:=⟨_,rfl⟩
 obtain⟨s,hs⟩:∃s,s=n%32:=⟨_,rfl⟩
 rw[<-hs]at hmd
 rw[<-hk]
 have hnk:2^n=2^(32*k)*2^s:=by rw[<-Nat.pow_add];congr 1;omega
 simp only[ag.all,az,bk,bt,bf]
 refine⟨aa,fun hb s' hv=>fW (.inl ?_),fun hb=>⟨⟨aa,aa⟩,aa,fun s' hv=>cJ ?_⟩⟩
 ·refine gX (us:=[.nil]) (.inr rfl) hv ah ?_
  have:A/2^n=0:=by
   rw[hnk,<-Nat.div_div_eq_div_mul,Nat.div_eq_of_lt (dF.1 (show nl A<=k by omega)),Nat.zero_div]
  rw[this];exact lO
 have hkA:k<nl A:=aa
 have hv:=jG (ls:=nZ) (l:=[4]) (vs:=[.ak 1 (nl A-k) fun i=>.int .u32 (aD A (i+k):Nat),.int .i64 n,.own 53248 1 0 (nl A-k),.int .i64 0]) hv rfl rfl
 obtain⟨R,hR⟩:∃R,R=A/2^(32*k):=⟨_,rfl⟩
 obtain⟨l,hl⟩:∃l,l=nl A-k:=⟨_,rfl⟩
 have hRl:R<2^(32*l):=by
  rw[hR,Nat.div_lt_iff_lt_mul (Nat.two_pow_pos _),<-Nat.pow_add,<-Nat.mul_add]
  exact dF.1 (show nl A<=l+k by omega)
 have hfun:(fun i=>AV.int .u32 (aD A (i+k):Nat))=aB (aD R):=by
  funext i;unfold aB;rw[ahY,hR]
 rw[hfun,<-hl]at hv
 refine ax.jq (i:=0) (y:=J3) ah (fun p:Nat×(Nat->Nat)=>⟨aA nZ (zu (aD R) l n p.1 7),dB 7 l p.2,8⟩)
  (fun p=>p.1<=l/\∀j,j<p.1->p.2 j=aD (R/2^s) j)
  (fun p=>l-p.1) (0,fun _=>0)
  (dL [(7,53248)] hv hk0 rfl ⟨aL,aL,⟨rfl,cP rfl rfl rfl⟩,aL,trivial⟩ ⟨⟨_,_,rfl,rfl,gi rfl fun j _=>rfl⟩,trivial⟩)
  ⟨by simp,fun j hj=>by simp only at hj;omega⟩ ?_
 rintro⟨i,o⟩ ⟨hi,ho⟩
 simp only at hi ho
 have hs32:s<32:=aa
 have ha:=dY (N:=R) (i:=i)
 have hb':=dY (N:=R) (i:=i+1)
 refine ax.bE hT fO hm 60 nZ aeG ah ?_
 have w1:i64.wrap ((i:Int)+1)=if i<l then((i+1:Nat):Int)else i64.wrap ((i:Int)+1):=by
  split
  ·exact fE aa aa
  ·rfl
 simp only[ag.all,az,bk,bt,bf,Nat.add_zero,beq_iff_eq]
 have next:∀{s':aK} {v:Int},i<l->v=((aD (R/2^s) i:Nat):Int)->bA nZ s'=some (zu (aD R) l n (i+1) 7,[(7,⟨true,true,1,l,fun j=>if j=i then .int .u32 v else aB o j⟩)])->
   ∃p:Nat×(Nat->Nat),(∃ρ,Le c0 ρ s' ⟨aA nZ (zu (aD R) l n p.1 7),dB 7 l p.2,8⟩)/\(p.1<=l/\∀j,j<p.1->p.2 j=aD (R/2^s) j)/\l-p.1<l-i:=by
  intro s' v hil hv1 hv
  refine⟨(i+1,cE o i (aD (R/2^s) i)),pg (ec hv rfl ?_) (h0 _) rfl (iz aa),⟨by simp only;omega,fun j hj=>?_⟩,by simp only;omega⟩
  ·simp only[dB]
   congr 3
   funext j
   exact iA hv1 j
  ·simp only at hj ⊢
   unfold cE
   split
   ·rename_i h;rw[h]
   ·exact ho j aa
 refine⟨fun hb=>?_,fun hb s' hv=>fZ ?_⟩
 ·have hil:i<l:=aa
  rw[if_pos hil]at w1
  rw[w1,hmd]
  have hf:∀x:Nat,(x:Int).fdiv (2^min ((s:Int).toNat) u64.bits)=((x/2^s:Nat):Int):=fun x=>by
   have:min ((s:Int).toNat) u64.bits=s:=by
    have:u64.bits=64:=rfl
    omega
   rw[this,Int.fdiv_eq_ediv_of_nonneg _ (by exact Int.le_of_lt (Int.pow_pos (by decide)))]
   simp
  have wa:u64.wrap (aD R i:Int)=((aD R i:Nat):Int):=cr aa aa
  have hor:u64.wrap ((BitVec.ofInt u64.bits (u64.wrap (aD R i:Int))|||BitVec.ofInt u64.bits (u64.wrap (u64.wrap (aD R (i+1):Int)*2^min (Int.toNat 32) u64.bits))).toNat:Int)=((aD R (i+1)*4294967296+aD R i:Nat):Int):=by
   rw[BitVec.or_comm,cr (x:=(aD R (i+1):Int)) aa aa]
   exact vv hb' ha
  simp only[bf]
  refine⟨aa,fun h1=>⟨⟨aa,aa⟩,⟨aa,aa,aa,aa⟩,fun s' hv=>next hil ?_ hv⟩,fun h1=>⟨⟨aa,aa,aa,aa⟩,fun s' hv=>next hil ?_ hv⟩⟩
  ·rw[hor]
   have:=hf (aD R (i+1)*4294967296+aD R i)
   simp only[bf]at this
   rw[this,kE,adV ha hb' hs32,wA hs32]
  ·rw[wa]
   have:=hf (aD R i)
   simp only[bf]at this
   have hd:=Nat.div_le_self (aD R i) (2^s)
   rw[this,kE,wA hs32,jZ (A:=R) (i:=i+1) (dF.2 (Nat.lt_of_lt_of_le hRl (Nat.pow_le_pow_right aa aa))),Nat.zero_mod,Nat.zero_mul,Nat.add_zero,Nat.mod_eq_of_lt aa]
 ·have hil:i=l:=aa
  show aG P c0 f232.ntmps (behind (aF f232) [1,1,1,1,0,1]) s' _
  refine aG.kU hT fO hm 60 hv (h0 _) rfl (iz aa) Q3 ah ah ?_
  simp only[ag.all,az,Nat.add_zero,kq]
  refine⟨⟨gV fun j hj=>?_,aa⟩,dX (congrArg AV.mag ?_)⟩
  ·rw[ho j aa];exact dY
  ·rw[val_congr (y:=aD (R/2^s)) fun j hj=>ho j aa,qi (Nat.lt_of_le_of_lt (Nat.div_le_self _ _) hRl),hR,hnk,Nat.div_div_eq_div_mul]
def Jr:Spec:=bY fun l=>match l with
 |[a,.int .i64 n]=>match jt a with
  |some A=>some (aJ (.mag (A/2^n.toNat)) [nl A<2^40,0<=n,n<2^62])
  |none=>none
 |_=>none
theorem adP:aU P Jr 232:=
 Ea (g:=fun A n=>.mag (A/2^n.toNat)) (l:=fun A=>[nl A<2^40]) (m:=2^62) fun {A n} h hn K=>by
  have:=abc (A:=A) (n:=n) h aa K
  simpa using this
end Go.Am.B
