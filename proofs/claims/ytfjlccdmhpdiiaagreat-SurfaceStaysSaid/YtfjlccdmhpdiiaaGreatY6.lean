/- rational.add, Add, Sub, Mul, Quo. -/
import Derived.Test.YtfjlccdmhpdiiaaGreatY5
set_option linter.unusedVariables false
variable {o z:Nat->Nat}{D X Y a b c i j k l x:Nat}
noncomputable section
namespace Go.Am.B
open Go Go.Am.N AV Proofs.Tryz IntKind
theorem PB {b:Bool} {N:Nat} (hk:k≠0):sQ b (N*k) (D*k)=sQ b N D:=by
 unfold sQ;have:gE b (N*k)=gE b N*(k:Int):=by unfold gE;split<;>simp[Int.neg_mul]
 rw[this,Rat.mkRat_mul_right hk]
theorem E2 {a c:Int} {d:Nat} (hd:d≠0):mkRat a d+mkRat c d=mkRat (a+c) d:=by
 rw[Rat.mkRat_add_mkRat _ _ hd hd,<-Int.add_mul,Rat.mkRat_mul_right hd]
theorem HI {s:Bool} (hD:D≠0):sQ s X D+sQ s Y D=sQ s (X+Y) D:=by
 unfold sQ;rw[E2 hD];congr 1;unfold gE;split<;>simp<;>omega
theorem EH {b s:Bool} (hD:D≠0) (hb:b≠s) (h:Y<=X):sQ b X D+sQ s Y D=sQ b (X-Y) D:=by
 unfold sQ;rw[E2 hD];congr 1;unfold gE;cases b<;>cases s<;>simp at hb ⊢<;>omega
theorem EV {b s:Bool} (hD:D≠0) (hb:b≠s) (h:X<=Y):sQ b X D+sQ s Y D=sQ s (Y-X) D:=by
 unfold sQ;rw[E2 hD];congr 1;unfold gE;cases b<;>cases s<;>simp at hb ⊢<;>omega
theorem XF {b s:Bool}:gE b X*gE s Y=gE (b !=s) (X*Y):=by
 unfold gE;cases b<;>cases s<;>simp[Int.neg_mul,Int.mul_neg]
theorem Iv {b s:Bool} {E:Nat}:sQ b X D*sQ s Y E=sQ (b !=s) (X*Y) (D*E):=by
 unfold sQ;rw[Rat.mkRat_mul_mkRat,XF]
theorem ri {q:Rat} (h:eZ q=true):q.num.natAbs<4294967296/\q.den<4294967296:=by
 unfold eZ at h;simpa using h
theorem pJ (ha:a<4294967296) (hb:b<4294967296):u64.wrap ((a:Int)*(b:Int))=((a*b:Nat):Int)/\a*b<=18446744065119617025:=by
 have h:=Nat.mul_le_mul (show a<=4294967295 by omega) (show b<=4294967295 by omega);refine⟨?_,h⟩;rw[show(a:Int)*(b:Int)=((a*b:Nat):Int) by simp,cC aa aa]
section add
variable {q r:Rat} {n m:Nat} {s:Bool}
theorem ag4 {f:Nat->AV} (hf:∀i,i<1->keys (f i)=[]) {b:Bool} {N:Nat}:iQ 8193 (pz b N D r m f):=⟨⟨aa,hf⟩,⟨aa,fun _ _=>rfl⟩,⟨aa,fun _ _=>rfl⟩,trivial⟩
theorem Bu:iQ 8193 (oC q r n m):=⟨⟨aa,fun _ _=>rfl⟩,⟨aa,fun _ _=>rfl⟩,⟨aa,fun _ _=>rfl⟩,trivial⟩
theorem GY (q r:Rat) (s:Bool):q+sQ s r.num.natAbs r.den=sQ (decide (q<0)) (q.num.natAbs*r.den) (q.den*r.den)+sQ s (r.num.natAbs*q.den) (q.den*r.den):=by
 rw[PB r.den_nz,lM,Nat.mul_comm q.den,PB q.den_nz]
theorem N8 {c:Ctx} (h0:∀nx k x,c.k0 k=some x->k<nx) (hq:Sz q n) (hr:Sz r m) (hn:n<2^42) (hm':m<2^42) {s':aK} (hv:bD fE s'=some (jg s,oC q r n m)):
  ax P c f166.ntmps nU s' (ej c (Fin T f166 (.rat (q+sQ s r.num.natAbs r.den) (n+m+1)))):=by
 obtain⟨a1,a2,a3⟩:=Sz.jY hq aa;obtain⟨b1,b2,b3⟩:=Sz.jY hr aa;have d1:=q.den_nz;have d2:=r.den_nz;have hz:Sz (q+sQ s r.num.natAbs r.den) (n+m+1):=hq.add (A2 d2 hr.1 hr.2);have bx:∀{a b:Nat},a<2^n->b<2^m->nl (a*b)<2^40:=fun ha hb=>j6 (n:=n+m) (by rw[Nat.pow_add];exact Nat.mul_lt_mul'' ha hb) aa;have last:∀{s':aK} {X Y D k:Nat},k<2^43->X<2^k->Y<2^k->nl D<2^40->D≠0->q+sQ s r.num.natAbs r.den=sQ (decide (q<0)) X D+sQ s Y D->bD (fE++[15,16,17]) s'=some (jg s++[.mag X,.mag Y,.mag D],oC q r n m)->
   aG P c f166.ntmps [part nU [1,1]] s' (ej c (Fin T f166 (.rat (q+sQ s r.num.natAbs r.den) (n+m+1)))):=by
  intro s' X Y D k hk hX2 hY2 hD hD0 heq hv;have hX:=j6 hX2 aa;have hY:=j6 hY2 aa;have hXY:nl (X+Y)<2^40:=j6 (n:=k+1) (by rw[Nat.pow_succ];omega) aa;refine aG.lE hT mN hm 60 hv (h0 _) rfl Bu VM ah rfl ?_;simp only[ag.all,ay,beq_iff_eq,beq_eq_false_iff_ne,ne_eq];refine⟨aa,fun hb=>⟨⟨hX,hY,hXY,hD,aa⟩,aa,dB ?_ hz⟩,fun hb=>⟨⟨hX,hY⟩,fun hc=>⟨⟨aa,Nat.lt_of_le_of_lt (iF (Nat.sub_le _ _)) hX,hD,aa⟩,aa,dB ?_ hz⟩,fun hc=>⟨⟨hY,hX⟩,⟨Nat.lt_of_le_of_lt (iF (Nat.sub_le _ _)) hY,hD,aa⟩,aa,dB ?_ hz⟩⟩⟩
  ·rw[heq,hb,HI hD0]
  ·rw[heq,EH hD0 hb (by split at hc<;>omega)]
  ·rw[heq,EV hD0 hb (by split at hc<;>omega)]
 have mulb:∀{a b:Nat},a<2^n->b<2^m->a*b<2^(n+m):=fun ha hb=>by rw[Nat.pow_add];exact Nat.mul_lt_mul'' ha hb
 refine ax.hole [1,1] ah (aG.fW hT mN hm 60 hv (h0 _) rfl Bu (fE++[15,16,17]) WN ah rfl ?_);simp only[ag.all,ay,Bool.not_eq_true',bC,Bool.not_eq_false',br];have fin:∀{s':aK} {R:AV},aG P c f166.ntmps [part nU [1,1]] s' (ej c (Fin T f166 R))->ax P c f166.ntmps (part nU [1,1]) s' (eH (fun s''=>aG P c f166.ntmps (behind nU [1,1]) s'' (ej c (Fin T f166 R))) (ej c (Fin T f166 R))):=
  fun h=>ax.mono h fun e s' h=>by cases e<;>exact h
 refine⟨⟨aa,aa,aa⟩,⟨aa,aa,a3,b3⟩,fun hb=>⟨⟨aa,a1,b2,aa,b1,a2,aa,a2,b2⟩,fun s' hv=>cV (fin (last (k:=n+m) aa (mulb hq.1 hr.2) ?_ (bx hq.2 hr.2) (Nat.mul_ne_zero d1 d2) (GY q r s) hv))⟩,fun hb s' hv=>cV (fin (last (k:=n+m) aa (Nat.lt_of_lt_of_le hq.1 (Nat.pow_le_pow_right aa aa)) (Nat.lt_of_lt_of_le hr.1 (Nat.pow_le_pow_right aa aa)) a2 d1 ?_ hv))⟩
 ·rw[Nat.mul_comm];exact mulb hq.2 hr.1
 ·have:q.den=r.den:=by split at hb<;>split at hb<;>omega
  rw[<-this,lM]
theorem ZM {c:Ctx} (h0:∀nx k x,c.k0 k=some x->k<nx) (hq:Sz q n) (hr:Sz r m) (hn:n<2^42) (hm':m<2^42) (h1:eZ q=true) (h2:eZ r=true) {s':aK} {Q:au->aK->Prop}
  (hv:bD (fE++[7,8,10,11]) s'=some (jg s++[.int .u64 (q.num.natAbs:Nat),.int .u64 (q.den:Nat),.int .u64 (r.num.natAbs:Nat),.int .u64 (r.den:Nat)],oC q r n m))
  (hN:∀s',ax P c f166.ntmps nU s' (ej c (Fin T f166 (.rat (q+sQ s r.num.natAbs r.den) (n+m+1))))->Q .normal s')
  (hR:∀s',ej c (Fin T f166 (.rat (q+sQ s r.num.natAbs r.den) (n+m+1))) .ret s'->Q .ret s'):ax P c f166.ntmps uK s' Q:=by
 have d1:=q.den_nz;have d2:=r.den_nz;have hz:Sz (q+sQ s r.num.natAbs r.den) (n+m+1):=hq.add (A2 d2 hr.1 hr.2);obtain⟨q1,q2⟩:=ri h1;obtain⟨r1,r2⟩:=ri h2;have hval:=GY q r s;obtain⟨b,hb⟩:∃b,decide (q<0)=b:=⟨_,rfl⟩
 rw[hb]at hval;obtain⟨wx,bx⟩:=pJ q1 r2;obtain⟨wy,by'⟩:=pJ r1 q2;obtain⟨wd,bd⟩:=pJ q2 r2;have hd0:q.den*r.den≠0:=Nat.mul_ne_zero d1 d2;have hk0:c.k0=bB:=by
  funext k;cases hk:c.k0 k with
  |none=>rfl
  |some x=>have:=h0 0 k x hk;omega
 -- the end by short numbers
 have ret:∀{s':aK} {N D k:Nat} {z:Rat},z=q+sQ s r.num.natAbs r.den->bD fE s'=some (jg s,pz b N D r m fun j=>if j=0 then bp (.rat z k)else .rat 0 1)->Q .ret s':=by
  intro s' N D k z hzv hv;refine hR _ (xd amn hv (h0 8193) rfl (ag4 fun i _=>?_) ⟨show 0<1 by omega,dB hzv hz⟩);split<;>rfl
 have back:∀{s':aK},bD fE s'=some (jg s,pz b q.num.natAbs (if q.den=1 then 0 else q.den) r m fun _=>.rat 0 1)->Q .normal s':=by
  intro s' hv;refine hN _ (ax.jh (dP (vs:=jg s) (ps:=oC q r n m) (nx:=8193) [(0,0),(4096,4096),(8192,8192)] hv hk0 (by simp[jb]) ⟨aM,⟨rfl,nS rfl⟩,⟨rfl,nS rfl⟩,⟨rfl,nS rfl⟩,trivial⟩
   ⟨⟨_,_,rfl,rfl,ji rfl fun i _=>gm rfl⟩,⟨_,_,rfl,rfl,ji rfl fun i _=>gm rfl⟩,⟨_,_,rfl,rfl,ji rfl fun i _=>mR rfl ?_⟩,trivial⟩) ?_)
  ·rw[<-hb];exact Q5 hq
  ·exact N8 h0 hq hr hn hm' (s:=s) rfl
 refine ax.jh (dP (us:=[.bool s,.ptr 0 0 3 0 [],.ptr 4096 0 3 0 [],.ptr 8192 0 3 0 [],.int .u64 (q.num.natAbs:Nat),.int .u64 (q.den:Nat),.int .u64 (r.num.natAbs:Nat),.int .u64 (r.den:Nat)])
   (vs:=[.bool s,.ptr 0 0 3 0 [],.ptr 4096 0 3 0 [],.ptr 8192 0 3 0 [],.int .u64 (q.num.natAbs:Nat),.int .u64 (q.den:Nat),.int .u64 (r.num.natAbs:Nat),.int .u64 (r.den:Nat)]) (os:=oC q r n m) (ps:=pz b q.num.natAbs (if q.den=1 then 0 else q.den) r m fun _=>.rat 0 1) (nx:=8193) [(0,0),(4096,4096),(8192,8192)] hv hk0 (by simp[jb])
  ⟨aM,⟨rfl,nS rfl⟩,⟨rfl,nS rfl⟩,⟨rfl,nS rfl⟩,aM,aM,aM,aM,trivial⟩
  ⟨⟨_,_,rfl,rfl,ji rfl fun i _=>gm rfl⟩,⟨_,_,rfl,rfl,ji rfl fun i _=>gm rfl⟩,⟨_,_,rfl,rfl,ji rfl fun i _=>mR rfl (by rw[<-hb];exact K2)⟩,trivial⟩) ?_
 have hD0:0<q.den*r.den:=aa;have eqc:b=s->sQ s (q.num.natAbs*r.den+r.num.natAbs*q.den) (q.den*r.den)=q+sQ s r.num.natAbs r.den:=fun h=>by rw[hval,h,HI hd0]
 have gec:b≠s->r.num.natAbs*q.den<=q.num.natAbs*r.den->sQ b (q.num.natAbs*r.den-r.num.natAbs*q.den) (q.den*r.den)=q+sQ s r.num.natAbs r.den:=fun h h'=>by rw[hval,EH hd0 h h']
 have ltc:b≠s->q.num.natAbs*r.den<=r.num.natAbs*q.den->sQ s (r.num.natAbs*q.den-q.num.natAbs*r.den) (q.den*r.den)=q+sQ s r.num.natAbs r.den:=fun h h'=>by rw[hval,EV hd0 h h']
 clear hval hv hN hR h1 h2 hb;generalize q+sQ s r.num.natAbs r.den=V at*;generalize q.num.natAbs*r.den=X at*;generalize r.num.natAbs*q.den=Y at*;generalize q.den*r.den=D at*;have ws:∀{a b:Nat},b<=a->a<=18446744065119617025->u64.wrap ((a:Int)-(b:Int))=((a-b:Nat):Int):=fun {a b} h1 h2=>by rw[cC aa aa];omega
 cases b<;>cases s
 ·refine ax.bE hT mN hm 60 fE aaB ah ?_;rw[wx,wy,wd];simp only[ag.all,ay,beq_iff_eq,bg];refine⟨⟨aa,aa,aa⟩,aa,fun hc=>⟨⟨aa,aa,aa⟩,fun s' hv=>ret ?_ hv⟩,fun hc=>⟨aa,aa,fun s' hv=>back hv⟩⟩;have h:=eq_of_beq (j7 hc);have e:(((X:Int)+(Y:Int)+0)%18446744073709551616).toNat=X+Y:=aa;rw[e];exact eqc rfl
 ·refine ax.bE hT mN hm 60 fE YU ah ?_;rw[wx,wy,wd];simp only[ag.all,ay,beq_iff_eq,bg];refine⟨⟨aa,aa,aa⟩,aa,aa,fun hc=>?_,fun hc=>?_⟩
  ·have h:=of_decide_eq_true (j7 hc);have h':Y<=X:=aa;rw[ws h' bx];refine⟨⟨aa,aa,aa,aa⟩,fun s' hv=>ret ?_ hv⟩;rw[bg];exact gec (by simp) h'
  ·have h:=of_decide_eq_false (j7 hc);have h':X<=Y:=aa;rw[ws h' by'];refine⟨aa,⟨aa,aa,aa⟩,fun s' hv=>ret ?_ hv⟩;rw[bg];exact ltc (by simp) h'
 ·refine ax.bE hT mN hm 60 fE alQ ah ?_;rw[wx,wy,wd];simp only[ag.all,ay,beq_iff_eq,bg];refine⟨⟨aa,aa,aa⟩,aa,aa,fun hc=>?_,fun hc=>?_⟩
  ·have h:=of_decide_eq_true (j7 hc);have h':Y<=X:=aa;rw[ws h' bx];refine⟨⟨aa,aa,aa,aa⟩,fun s' hv=>ret ?_ hv⟩;rw[bg];exact gec (by simp) h'
  ·have h:=of_decide_eq_false (j7 hc);have h':X<=Y:=aa;rw[ws h' by'];refine⟨aa,⟨aa,aa,aa⟩,fun s' hv=>ret ?_ hv⟩;rw[bg];exact ltc (by simp) h'
 ·refine ax.bE hT mN hm 60 fE SM ah ?_;rw[wx,wy,wd];simp only[ag.all,ay,beq_iff_eq,bg];refine⟨⟨aa,aa,aa⟩,aa,fun hc=>⟨⟨aa,aa,aa⟩,fun s' hv=>ret ?_ hv⟩,fun hc=>⟨aa,aa,fun s' hv=>back hv⟩⟩;have h:=eq_of_beq (j7 hc);have e:(((X:Int)+(Y:Int)+0)%18446744073709551616).toNat=X+Y:=aa;rw[e];exact eqc rfl
theorem Zh (hn:n<2^42) (hm':m<2^42) (K:Nat) (pre:aC):aQ P 166 K [.rat q n,.rat r m,.bool s] pre (aJ (.rat (q+sQ s r.num.natAbs r.den) (n+m+1)) []):=by
 refine jn fun⟨hq,hr,_⟩=>?_;have hq:Sz q n:=hq;have hr:Sz r m:=hr;refine fV hT YV rfl aV rfl (fun _ c h0=>?_) K pre;have long:=fun {s':aK}=>N8 (s:=s) (s':=s') h0 hq hr hn hm';have fin:∀{s':aK} {R:AV},ax P c f166.ntmps nU s' (ej c (Fin T f166 R))->ax P c f166.ntmps nU s' (eH (fun s''=>aG P c f166.ntmps (behind (aE f166) [1,1]) s'' (ej c (Fin T f166 R))) (ej c (Fin T f166 R))):=
  fun h=>ax.mono h fun e s' h=>by cases e<;>exact h
 refine ax.hole [1,1] ah (aG.chunk 1 (aG.bE hT mN hm 60 fE aky ah fun s' hv=>cV ?_));show aG P c f166.ntmps [HF] s' _;refine aG.k8 hv (h0 8193) rfl rfl Bu ?_;refine ax.hole [1,1] ah (aG.bE hT mN hm 60 (fE++[7,8,28]) Z6 ah ⟨show 0<1 by omega,fun s' hv=>cV ?_⟩);refine ax.cond (b:=.tmp 28) (x:=DJ) (y:=.skip) (Ap hv rfl rfl) (fun h1=>?_) (fun h1=>ax.skip (by exact fin (long (jF (ls:=fE) (l:=[7,8,28]) (vs:=jg s) hv rfl rfl))));simp only[h1,if_true]at hv;have hv:=jF (ls:=fE++[7,8]) (l:=[28]) (vs:=jg s++[.int .u64 (q.num.natAbs:Nat),.int .u64 (q.den:Nat)]) hv rfl rfl;refine ax.k8 hv (h0 8193) rfl Bu ?_;refine ax.hole [1,1] ah (aG.bE hT mN hm 60 (fE++[7,8,10,11,35]) ajv ah ⟨show 0<1 by omega,fun s' hv=>cV ?_⟩);refine ax.cond (b:=.tmp 35) (x:=uK) (y:=.skip) (Ap hv rfl rfl) (fun h2=>?_) (fun h2=>ax.skip (by exact fin (long (jF (ls:=fE) (l:=[7,8,10,11,35]) (vs:=jg s) hv rfl rfl))));simp only[h2,if_true]at hv;exact ZM h0 hq hr hn hm' h1 h2 (jF (ls:=fE++[7,8,10,11]) (l:=[35]) (vs:=jg s++[.int .u64 (q.num.natAbs:Nat),.int .u64 (q.den:Nat),.int .u64 (r.num.natAbs:Nat),.int .u64 (r.den:Nat)]) hv rfl rfl)
  (fun s' h=>by exact fin h) (fun s' h=>by exact h)
end add
end Go.Am.B
namespace Go.Am.B
open Go Go.Am.N AV Proofs.Tryz IntKind
theorem aim:aU 106 f106:=aS func106
theorem SK:aU 163 f163:=aS func163
theorem aaX:aU 145 f145:=aS func145
theorem abI:aU 146 f146:=aS func146
theorem SI:aU 221 f221:=aS func221
def R3:Spec:=ck fun l=>match l with
 |[.rat q n,.rat r m,.bool s]=>some (aJ (.rat (q+sQ s r.num.natAbs r.den) (n+m+1)) [n<2^42,m<2^42])
 |_=>none
def Ji:Spec:=ck fun l=>match l with
 |[.rat q n,.rat r m]=>some (aJ (.int .i64 (fQ q r)) [n<2^42,m<2^42])
 |_=>none
abbrev ER:FuncId×Spec:=(197,Sc)
def GA:aX:=(166,R3)::(108,Ji)::ER::(245,LK)::(205,Fk)::(213,Gt)::[]
theorem aid {q r:Rat} {n m:Nat}:bX T GA [] 60 f106 (aE f106) ⟨aN 0 [.rat q n,.rat r m],[],0⟩=
  let a:=0<1;some (ag.aj [a,a,a,n<2^42,m<2^42,a] (ag.aj [a] (ag.leaf au.ret [rat (q+sQ (decide (r<0)) r.num.natAbs r.den) (n+m+1)]))):=ah
theorem aba {q r:Rat} {n m:Nat}:bX T GA [] 60 f163 (aE f163) ⟨aN 0 [.rat q n,.rat r m],[],0⟩=
  let a:=0<1;some (ag.aj [a,a,a,n<2^42,m<2^42,a] (ag.aj [a] (ag.leaf au.ret [rat (q+sQ (!decide (r<0)) r.num.natAbs r.den) (n+m+1)]))):=ah
theorem ajc {q r:Rat} {n m:Nat}:bX T GA [8] 60 f145 (aE f145) ⟨aN 0 [.rat q n,.rat r m],[],0⟩=
  let a:=0<1;some (ag.aj [a,a,m<2^42,n<2^42] (ag.fork (decide (fQ r q<0)) (ag.aj [a,a] (ag.aj [a,m<2^44,a] (ag.aj [a] (ag.leaf au.ret [rat r m])))) (ag.aj [a,n<2^44,a] (ag.aj [a] (ag.leaf au.ret [rat q n]))))):=ah
theorem Ya {q r:Rat} {n m:Nat}:bX T GA [8] 60 f146 (aE f146) ⟨aN 0 [.rat q n,.rat r m],[],0⟩=
  let a:=0<1;some (ag.aj [a,a,m<2^42,n<2^42] (ag.fork (decide (fQ r q>0)) (ag.aj [a,a] (ag.aj [a,m<2^44,a] (ag.aj [a] (ag.leaf au.ret [rat r m])))) (ag.aj [a,n<2^44,a] (ag.aj [a] (ag.leaf au.ret [rat q n]))))):=ah
theorem ami {n:Int}:bX T GA [] 60 f221 (aE f221) ⟨aN 0 [.int .i64 n],[],0⟩=
  let a:=sQ (decide (n<0)) n.natAbs 1;some (ag.aj [-(2:Int)^63<=n,n<2^63,nl n.natAbs<2^40,nl 1<2^40,(0:Nat)<1] (ag.aj [(0:Nat)<1] (ag.leaf au.ret [rat a (dj a)]))):=ah
theorem ai9 {q r:Rat} {n m:Nat}:bX T GQ [20,23,34,47,49,56,63,76] 60 f108 (aE f108) ⟨aN 0 [.rat q n,.rat r m],[],0⟩=
  let h:ag (List AV):=ag.leaf au.ret [int .i64 (0:Int)];let d:=q.num.natAbs;let b:=r.num.natAbs;let g:ag (List AV):=ag.leaf au.ret [int .i64 (1:Int)];let e:=decide (q<0);let j:ag (List AV):=ag.leaf au.ret [int .i64 (-1:Int)];let t:=if r.den=1 then 0 else r.den;let s:=if q.den=1 then 0 else q.den;let f:=2^40;let a:=0<1;let i:=dw (d*r.den) (b*q.den);let p:=u64.wrap ((↑(if eZ q=true then d else 0):Int)*(↑(if eZ r=true then r.den else 0):Int));let o:=u64.wrap ((↑(if eZ r=true then b else 0):Int)*(↑(if eZ q=true then q.den else 0):Int));let l:ag (List AV):=ag.aj [a,a,nl d<f,nl r.den<f,a,a,nl b<f,nl q.den<f,nl (d*r.den)<f,nl (b*q.den)<f] (ag.aj [a] (ag.fork e (ag.leaf au.ret [int .i64 (i64.wrap ((0:Int)-i))]) (ag.leaf au.ret [int .i64 i])));let k:ag (List AV):=ag.fork (decide (p<o)) (ag.aj [a] (ag.fork e g j)) (ag.fork (decide (p>o)) (ag.aj [a] (ag.fork e j g)) (ag.aj [a] (ag.fork e h h)));some (ag.aj [a,n<2^44,a,m<2^44] (ag.fork (fy q !=fy r) (ag.fork (decide (fy q<fy r)) j g) (ag.aj [a] (ag.aj [a,a,nl s<f,nl t<f] (ag.fork (decide (s=t)) (ag.aj [a,a,nl d<f,nl b<f] (ag.aj [a] (ag.fork e (ag.leaf au.ret [int .i64 (i64.wrap ((0:Int)-dw d b))]) (ag.leaf au.ret [int .i64 (dw d b)])))) (ag.aj [a] (ag.fork (eZ q) (ag.aj [eZ q=true] (ag.fork (bif true then eZ r else false) k l)) (ag.aj [eZ q=false] (ag.fork false k l))))))))):=ah
theorem agL:aW P R3 166:=by
 refine cK fun K args r hk hs _=>?_;split at hs
 ·simp only[az]at hs;subst hs;exact fun need=>Zh need.1 need.2 K [] trivial
 ·simp at hs
theorem Bg {q r:Rat} (h:fy q≠fy r):fQ q r=if fy q<fy r then-1 else 1:=by
 unfold fy fQ at*;grind
theorem ake:-dw a b=dw b a:=by unfold dw;split<;>split<;>omega
theorem K9 (hk:0<k):dw (a*k) (b*k)=dw a b:=by
 unfold dw;simp only[Nat.mul_lt_mul_right hk]
theorem BF:i64.wrap (0-dw a b)=-dw a b:=by
 have:dw a b=-1\/dw a b=0\/dw a b=1:=by unfold dw;split;exact .inl rfl;split;exact .inr (.inr rfl);exact .inr (.inl rfl)
 rcases this with h|h|h<;>rw[h]<;>rfl
theorem oZ {q r:Rat} (h:fy q=fy r):fQ q r=if q<0 then-dw (q.num.natAbs*r.den) (r.num.natAbs*q.den)else dw (q.num.natAbs*r.den) (r.num.natAbs*q.den):=by
 have h1:q<0↔r<0:=by unfold fy at h;grind
 have e1:∀{a b:Nat},(-(a:Int))*(b:Int)=-((a*b:Nat):Int):=fun {a b}=>by simp[Int.neg_mul]
 have e2:∀{a b:Nat},(a:Int)*(b:Int)=((a*b:Nat):Int):=fun {a b}=>by simp
 unfold fQ;by_cases hq:q<0
 ·have hr:=h1.1 hq;have q1:q.num=-(q.num.natAbs:Int):=by have:=jK.1 hq;omega
  have r1:r.num=-(r.num.natAbs:Int):=by have:=jK.1 hr;omega
  have l1:q<r↔r.num.natAbs*q.den<q.num.natAbs*r.den:=by
   rw[Rat.lt_iff]
   conv=>lhs;rw[q1,r1,e1,e1]
   omega
  have l2:r<q↔q.num.natAbs*r.den<r.num.natAbs*q.den:=by
   rw[Rat.lt_iff]
   conv=>lhs;rw[q1,r1,e1,e1]
   omega
  rw[if_pos hq,ake];unfold dw;simp only[l1,l2]
 ·have hr:¬r<0:=fun h=>hq (h1.2 h);have q1:q.num=(q.num.natAbs:Int):=by have:¬q.num<0:=fun h=>hq (jK.2 h);omega
  have r1:r.num=(r.num.natAbs:Int):=by have:¬r.num<0:=fun h=>hr (jK.2 h);omega
  have l1:q<r↔q.num.natAbs*r.den<r.num.natAbs*q.den:=by
   rw[Rat.lt_iff]
   conv=>lhs;rw[q1,r1,e2,e2]
   omega
  have l2:r<q↔r.num.natAbs*q.den<q.num.natAbs*r.den:=by
   rw[Rat.lt_iff]
   conv=>lhs;rw[q1,r1,e2,e2]
   omega
  rw[if_neg hq];unfold dw;simp only[l1,l2]
theorem Ek {q r:Rat} {n m:Nat} (hn:n<2^42) (hm':m<2^42) (K:Nat) (pre:aC):aQ P 108 K [.rat q n,.rat r m] pre (aJ (.int .i64 (fQ q r)) []):=by
 refine jn fun⟨hq,hr,_⟩=>?_;have hq:Sz q n:=hq;have hr:Sz r m:=hr;obtain⟨a1,a2,a3⟩:=Sz.jY hq aa;obtain⟨b1,b2,b3⟩:=Sz.jY hr aa;have d1:=q.den_nz;have d2:=r.den_nz;have m1:nl (q.num.natAbs*r.den)<2^40:=j6 (n:=n+m) (by rw[Nat.pow_add];exact Nat.mul_lt_mul'' hq.1 hr.2) aa;have m2:nl (r.num.natAbs*q.den)<2^40:=j6 (n:=m+n) (by rw[Nat.pow_add];exact Nat.mul_lt_mul'' hr.1 hq.2) aa;refine b9 hT mN hm ak7 rfl aV rfl 60 ai9 (fun _=>?_) K pre;simp only[ag.all,ay,bne_iff_ne,ne_eq,bne_eq_false_iff_eq];refine⟨⟨aa,aa,aa,aa⟩,fun hs=>⟨fun hl=>bP ?_,fun hl=>bP ?_⟩,fun hs=>⟨aa,⟨aa,aa,a3,b3⟩,fun hd=>⟨⟨aa,aa,a1,b1⟩,aa,fun hc=>bP ?_,fun hc=>bP ?_⟩,fun hd=>⟨aa,fun hp=>⟨hp,fun hp2=>?_,fun hp2=>⟨⟨aa,aa,a1,b2,aa,aa,b1,a2,m1,m2⟩,aa,fun hc=>bP ?_,fun hc=>bP ?_⟩⟩,fun hp=>⟨hp,fun h=>by simp at h,fun _=>⟨⟨aa,aa,a1,b2,aa,aa,b1,a2,m1,m2⟩,aa,fun hc=>bP ?_,fun hc=>bP ?_⟩⟩⟩⟩⟩
 ·rw[Bg hs,if_pos (of_decide_eq_true hl)]
 ·rw[Bg hs,if_neg (of_decide_eq_false hl)]
 ·have hd:=of_decide_eq_true hd;have e:q.den=r.den:=by split at hd<;>split at hd<;>omega
  rw[oZ hs,if_pos (of_decide_eq_true hc),e,K9 aa,BF]
 ·have hd:=of_decide_eq_true hd;have e:q.den=r.den:=by split at hd<;>split at hd<;>omega
  rw[oZ hs,if_neg (of_decide_eq_false hc),e,K9 aa]
 ·have hp2:=j7 hp2;obtain⟨q1,q2⟩:=ri hp;obtain⟨r1,r2⟩:=ri hp2;rw[if_pos hp,if_pos hp2,if_pos hp2,if_pos hp,(pJ q1 r2).1,(pJ r1 q2).1];have hcs:=oZ hs;generalize q.num.natAbs*r.den=X at*;generalize r.num.natAbs*q.den=Y at*;unfold dw at hcs;refine⟨fun h1=>⟨aa,fun hc=>bP ?_,fun hc=>bP ?_⟩,fun h1=>⟨fun h2=>⟨aa,fun hc=>bP ?_,fun hc=>bP ?_⟩,fun h2=>⟨aa,fun hc=>bP ?_,fun hc=>bP ?_⟩⟩⟩
  all_goals rw[hcs]
  ·rw[if_pos (of_decide_eq_true hc),if_pos (by have:=of_decide_eq_true h1;omega)];rfl
  ·rw[if_neg (of_decide_eq_false hc),if_pos (by have:=of_decide_eq_true h1;omega)]
  ·rw[if_pos (of_decide_eq_true hc),if_neg (by have:=of_decide_eq_false h1;omega),if_pos (by have:=of_decide_eq_true h2;omega)]
  ·rw[if_neg (of_decide_eq_false hc),if_neg (by have:=of_decide_eq_false h1;omega),if_pos (by have:=of_decide_eq_true h2;omega)]
  ·rw[if_pos (of_decide_eq_true hc),if_neg (by have:=of_decide_eq_false h1;omega),if_neg (by have:=of_decide_eq_false h2;omega)];rfl
  ·rw[if_neg (of_decide_eq_false hc),if_neg (by have:=of_decide_eq_false h1;omega),if_neg (by have:=of_decide_eq_false h2;omega)]
 ·rw[oZ hs,if_pos (of_decide_eq_true hc),BF]
 ·rw[oZ hs,if_neg (of_decide_eq_false hc)]
 ·rw[oZ hs,if_pos (of_decide_eq_true hc),BF]
 ·rw[oZ hs,if_neg (of_decide_eq_false hc)]
theorem acg:aW P Ji 108:=by
 refine cK fun K args r hk hs _=>?_;split at hs
 ·simp only[az]at hs;subst hs;exact fun need=>Ek need.1 need.2 K [] trivial
 ·simp at hs
theorem alr:aW P ER.2 ER.1:=S6
theorem uO:bn P GA:=aH agL (aH acg (aH alr (aH alW (aH IX (aH Rm bw)))))
section ops
variable {q r:Rat} {n m:Nat}
theorem KI (hn:n<2^42) (hm':m<2^42) (K:Nat):aQ P 106 K [.rat q n,.rat r m] [] (aJ (.rat (q+r) (n+m+1)) []):=by
 refine b9 hT uO hm aim rfl aV rfl 60 aid (fun _=>?_) K [];simp only[ag.all,ay,lM];exact⟨⟨aa,aa,aa,hn,hm',aa⟩,aa,.refl _⟩
theorem YE (r:Rat):sQ (!decide (r<0)) r.num.natAbs r.den=-r:=by
 have h:=lM r
 conv=>rhs;rw[<-h]
 unfold sQ;rw[Rat.neg_mkRat];congr 1;unfold gE;by_cases h:r<0<;>simp[h]
theorem Qf (hn:n<2^42) (hm':m<2^42) (K:Nat):aQ P 163 K [.rat q n,.rat r m] [] (aJ (.rat (q-r) (n+m+1)) []):=by
 refine b9 hT uO hm SK rfl aV rfl 60 aba (fun _=>?_) K [];simp only[ag.all,ay,YE];exact⟨⟨aa,aa,aa,hn,hm',aa⟩,aa,dY (by rw[Rat.sub_eq_add_neg])⟩
def nH (q r:Rat):Rat:=if r<q then r else q
def nN (q r:Rat):Rat:=if q<r then r else q
theorem oI {q r:Rat}:fQ q r<0↔q<r:=by unfold fQ;grind
theorem uP {q r:Rat}:fQ q r>0↔r<q:=by unfold fQ;grind
theorem ajl (hn:n<2^42) (hm':m<2^42) (K:Nat):aQ P 145 K [.rat q n,.rat r m] [] (aJ (.rat (nH q r) (max n m)) []):=by
 refine b9 hT uO hm aaX rfl aV rfl 60 ajc (fun _=>?_) K [];simp only[ag.all,ay,br,bC,oI];refine⟨⟨aa,aa,hm',hn⟩,fun h=>⟨⟨aa,aa⟩,⟨aa,aa,aa⟩,aa,?_⟩,fun h=>⟨⟨aa,aa,aa⟩,aa,?_⟩⟩
 ·unfold nH;rw[if_pos h];exact dU (Nat.le_max_right _ _)
 ·unfold nH;rw[if_neg h];exact dU (Nat.le_max_left _ _)
theorem Ti (hn:n<2^42) (hm':m<2^42) (K:Nat):aQ P 146 K [.rat q n,.rat r m] [] (aJ (.rat (nN q r) (max n m)) []):=by
 refine b9 hT uO hm abI rfl aV rfl 60 Ya (fun _=>?_) K [];simp only[ag.all,ay,br,bC,uP];refine⟨⟨aa,aa,hm',hn⟩,fun h=>⟨⟨aa,aa⟩,⟨aa,aa,aa⟩,aa,?_⟩,fun h=>⟨⟨aa,aa,aa⟩,aa,?_⟩⟩
 ·unfold nN;rw[if_pos h];exact dU (Nat.le_max_right _ _)
 ·unfold nN;rw[if_neg h];exact dU (Nat.le_max_left _ _)
theorem Ui {n:Int}:sQ (decide (n<0)) n.natAbs 1=(n:Rat):=by
 unfold sQ;have:gE (decide (n<0)) n.natAbs=n:=by unfold gE;by_cases h:n<0<;>simp[h]<;>omega
 rw[this,Rat.mkRat_one]
theorem DH {n:Int}:Sz (n:Rat) (max 1 (bT n.natAbs)):=by
 refine⟨?_,?_⟩
 ·rw[Rat.num_intCast];exact Nat.lt_of_lt_of_le (iS.1 bq) (Nat.pow_le_pow_right aa (Nat.le_max_right _ _))
 ·rw[Rat.den_intCast];exact Nat.lt_of_lt_of_le (show 1<2^1 by omega) (Nat.pow_le_pow_right aa (Nat.le_max_left _ _))
theorem EG {n:Int} (h1:-2^63<=n) (h2:n<2^63) (K:Nat):aQ P 221 K [.int .i64 n] [] (aJ (.rat (n:Rat) (max 1 (bT n.natAbs))) []):=by
 refine b9 hT uO hm SI rfl aV rfl 60 ami (fun _=>?_) K [];simp only[ag.all,ay,Ui];exact⟨⟨h1,h2,j6 (n:=64) aa aa,by decide,aa⟩,aa,dB rfl DH⟩
theorem Pa (hn:n<2^42) (hm':m<2^42) (K:Nat):aQ P 173 K [.rat q n,.rat r m] [] (aJ (.rat (q*r) (n+m)) []):=by
 refine jn fun⟨hq,hr,_⟩=>?_;have hq:Sz q n:=hq;have hr:Sz r m:=hr;obtain⟨a1,a2,a3⟩:=Sz.jY hq aa;obtain⟨b1,b2,b3⟩:=Sz.jY hr aa;have d1:=q.den_nz;have d2:=r.den_nz;have m1:nl (q.num.natAbs*r.num.natAbs)<2^40:=j6 (n:=n+m) (by rw[Nat.pow_add];exact Nat.mul_lt_mul'' hq.1 hr.1) aa;have m2:nl (q.den*r.den)<2^40:=j6 (n:=n+m) (by rw[Nat.pow_add];exact Nat.mul_lt_mul'' hq.2 hr.2) aa;have hz:=hq.mul hr;have hv:sQ (decide (q<0)!=decide (r<0)) (q.num.natAbs*r.num.natAbs) (q.den*r.den)=q*r:=by rw[<-Iv,lM,lM]
 have hzero:q=0\/r=0->bV (.agg [.bool false,.mag 0,.mag 0]) (.rat (q*r) (n+m)):=by
  intro h;have e:q*r=0:=by rcases h with h|h<;>subst h<;>simp
  obtain⟨k,hk⟩:∃k,n+m=k+1:=⟨n+m-1,by have:=hq.pos;omega⟩
  rw[e,hk];exact jB
 refine b9 hT mN hm ahz rfl aV rfl 60 ahx (fun _=>?_) K [];have hlong:(ag.aj
         [(0:Nat)<1,(0:Nat)<1,(0:Nat)<1,(0:Nat)<1,nl q.num.natAbs<2^40,nl r.num.natAbs<2^40,(0:Nat)<1,(0:Nat)<1,nl q.den<2^40,nl r.den<2^40,nl (q.num.natAbs*r.num.natAbs)<2^40,nl (q.den*r.den)<2^40,(0:Nat)<1]
         (ag.aj [(0:Nat)<1]
          (ag.leaf au.ret
           [AV.rat (sQ (decide (q<0)!=decide (r<0)) (q.num.natAbs*r.num.natAbs) (q.den*r.den))
             (dj (sQ (decide (q<0)!=decide (r<0)) (q.num.natAbs*r.num.natAbs) (q.den*r.den)))]))).all fun _ us=>fF us (.rat (q*r) (n+m)):=by
  simp only[ag.all,ay];exact⟨⟨aa,aa,aa,aa,a1,b1,aa,aa,a2,b2,m1,m2,aa⟩,aa,dB hv hz⟩
 refine⟨fun hb=>⟨⟨show 0<1 by omega,hb⟩,fun _=>⟨show 0<1 by omega,show 0<1 by omega,hzero (.inl ?_)⟩,fun h=>by simp at h⟩,fun hb=>⟨⟨show 0<1 by omega,hb,show 0<1 by omega⟩,fun hc=>⟨show 0<1 by omega,show 0<1 by omega,hzero (.inr ?_)⟩,fun hc=>⟨show 0<1 by omega,fun h1=>⟨show 0<1 by omega,fun h2=>?_,fun h2=>hlong⟩,fun h1=>hlong⟩⟩⟩
 ·have:=eq_of_beq hb;exact oE.1 (jX.1 aa)
 ·have:=eq_of_beq (jk hc);exact oE.1 (jX.1 aa)
 ·obtain⟨q1,q2⟩:=ri h1;obtain⟨r1,r2⟩:=ri h2;obtain⟨wx,bx⟩:=pJ q1 r1;obtain⟨wd,bd⟩:=pJ q2 r2;have hd0:q.den*r.den≠0:=Nat.mul_ne_zero d1 d2;rw[if_pos h1,if_pos h2,if_pos h1,if_pos h2,wx,wd];simp only[ag.all,ay,bg];exact⟨⟨aa,aa,aa,aa,aa⟩,aa,dB hv hz⟩
theorem HV (q r:Rat) (hr:r≠0):sQ (decide (q<0)!=decide (r<0)) (q.num.natAbs*r.den) (q.den*r.num.natAbs)=q/r:=by
 have hn:r.num≠0:=fun h=>hr (Rat.num_eq_zero.1 h);have hi:r⁻¹=sQ (decide (r<0)) r.den r.num.natAbs:=by
  rw[<-lM r⁻¹];have e1:r⁻¹.num.natAbs=r.den:=by rw[Rat.num_inv,Int.natAbs_mul,Int.natAbs_natCast,Int.natAbs_sign_of_ne_zero hn,Nat.one_mul]
  have e2:r⁻¹.den=r.num.natAbs:=by rw[Rat.den_inv,if_neg hn]
  have e3:decide (r⁻¹<0)=decide (r<0):=by
   rw[decide_eq_decide,jK,jK,Rat.num_inv];have hd:=r.den_nz;have hd':(0:Int)<(r.den:Int):=aa;rcases Int.lt_trichotomy r.num 0 with h|h|h
   ·rw[Int.sign_eq_neg_one_of_neg h];omega
   ·exact absurd h hn
   ·rw[Int.sign_eq_one_of_pos h];omega
  rw[e1,e2,e3]
 rw[Rat.div_def,hi]
 conv=>rhs;rw[<-lM q]
 rw[Iv]
theorem EK (hn:n<2^42) (hm':m<2^42) (K:Nat):aQ P 174 K [.rat q n,.rat r m] [] (aJ (.tuple [.rat (q/r) (n+m),.int .i64 (if r=0 then 3 else 0)]) []):=by
 refine jn fun⟨hq,hr,_⟩=>?_;have hq:Sz q n:=hq;have hr:Sz r m:=hr;obtain⟨a1,a2,a3⟩:=Sz.jY hq aa;obtain⟨b1,b2,b3⟩:=Sz.jY hr aa;have d1:=q.den_nz;have d2:=r.den_nz;have m1:nl (q.num.natAbs*r.den)<2^40:=j6 (n:=n+m) (by rw[Nat.pow_add];exact Nat.mul_lt_mul'' hq.1 hr.2) aa;have m2:nl (q.den*r.num.natAbs)<2^40:=j6 (n:=n+m) (by rw[Nat.pow_add];exact Nat.mul_lt_mul'' hq.2 hr.1) aa;have hz:=hq.div hr;have sg:∀{x:Rat},fy x=0↔x=0:=by intro x;unfold fy;grind
 refine b9 hT mN hm WO rfl aV rfl 60 aht (fun _=>?_) K [];refine⟨⟨show 0<1 by omega,show m<2^44 by omega⟩,fun hb=>⟨show 0<1 by omega,show 0<1 by omega,?_,?_,trivial⟩,fun hb=>⟨show 0<1 by omega,?_⟩⟩
 ·have h0:r=0:=sg.1 (eq_of_beq hb);have e:q/r=0:=by rw[h0,Rat.div_def,Rat.inv_zero,Rat.mul_zero]
  obtain⟨k,hk⟩:∃k,n+m=k+1:=⟨n+m-1,by have:=hq.pos;omega⟩
  rw[e,hk];exact jB
 ·have h0:r=0:=sg.1 (eq_of_beq hb);exact bP (by rw[if_pos h0])
 have h0:r≠0:=fun h=>by
  rw[h]at hb;simp[fy]at hb
 have hv:=HV q r h0;have he:bV (.int .i64 0) (.int .i64 (if r=0 then 3 else 0)):=bP (by rw[if_neg h0]);have hlong:(ag.aj
         [(0:Nat)<1,(0:Nat)<1,(0:Nat)<1,(0:Nat)<1,nl q.num.natAbs<2^40,nl r.den<2^40,(0:Nat)<1,(0:Nat)<1,nl q.den<2^40,nl r.num.natAbs<2^40,nl (q.num.natAbs*r.den)<2^40,nl (q.den*r.num.natAbs)<2^40,(0:Nat)<1]
         (ag.aj [(0:Nat)<1]
          (ag.leaf au.ret
           [AV.rat (sQ (decide (q<0)!=decide (r<0)) (q.num.natAbs*r.den) (q.den*r.num.natAbs))
             (dj (sQ (decide (q<0)!=decide (r<0)) (q.num.natAbs*r.den) (q.den*r.num.natAbs))),.int .i64 0]))).all fun _ us=>fF us (.tuple [.rat (q/r) (n+m),.int .i64 (if r=0 then 3 else 0)]):=by
  simp only[ag.all,ay];exact⟨⟨aa,aa,aa,aa,a1,b2,aa,aa,a2,b1,m1,m2,aa⟩,aa,dB hv hz,he,trivial⟩
 refine⟨fun h1=>⟨show 0<1 by omega,fun h2=>?_,fun h2=>hlong⟩,fun h1=>hlong⟩;obtain⟨q1,q2⟩:=ri h1;obtain⟨r1,r2⟩:=ri h2;obtain⟨wx,bx⟩:=pJ q1 r2;obtain⟨wd,bd⟩:=pJ q2 r1;have hr0:r.num.natAbs≠0:=fun h=>h0 (oE.1 h);have hd0:q.den*r.num.natAbs≠0:=Nat.mul_ne_zero d1 hr0;rw[if_pos h1,if_pos h2,if_pos h1,if_pos h2,wx,wd];simp only[ag.all,ay,bg];exact⟨⟨aa,aa,aa,aa,aa⟩,aa,dB hv hz,he,trivial⟩
end ops
def Mu:Spec:=ck fun l=>match l with
 |[.int .i64 n]=>some (aJ (.rat (n:Rat) (max 1 (bT n.natAbs))) [-2^63<=n,n<2^63])
 |_=>none
theorem ZO:aW P Mu 221:=by
 refine cK fun K args r hk hs _=>?_;split at hs
 ·simp only[az]at hs;subst hs;exact fun need=>EG need.1 need.2 K trivial
 ·simp at hs
end Go.Am.B
namespace Go.Am.B
open Go Go.Am.N AV Proofs.Tryz IntKind
theorem ac7:aU 185 f185:=aS func185
theorem ajC:aU 190 f190:=aS func190
theorem VL:aU 227 f227:=aS func227
theorem TA:aU 126 f126:=aS func126
theorem T0:aU 228 f228:=aS func228
theorem alg {n:Nat}:aI T [] [] 30 [0,3] (before (aE f185) [1,1,0]) ⟨aN 0 [.ak 1 n (aB z)],[],0⟩=
  some (ag.leaf au.normal ([ak 1 n (aB z),int .i64 (↑n:Int)],[])):=ah
theorem ajd {n:Nat}:aI T [] [8,15] 30 [0,3] [part (aE f185) [1,1,0,0,0]] ⟨aA [0,3] [.ak 1 n (aB z),.int .i64 k],[],0⟩=
  some (ag.fork (decide ((↑k:Int)>0)) (ag.aj [decide ((↑k:Int)>0)=true,(0:Int)<=i64.wrap ((↑k:Int)-1)/\(i64.wrap ((↑k:Int)-1)).toNat<n] (ag.fork (bif true then(↑(z (i64.wrap ((↑k:Int)-1)).toNat):Int)==0 else false) (ag.leaf au.normal ([ak 1 n (aB z),int .i64 (i64.wrap ((↑k:Int)-1))],[])) (ag.leaf (au.exit 0) ([ak 1 n (aB z),int .i64 (↑k:Int)],[])))) (ag.aj [decide ((↑k:Int)>0)=false] (ag.fork false (ag.leaf au.normal ([ak 1 n (aB z),int .i64 (i64.wrap ((↑k:Int)-1))],[])) (ag.leaf (au.exit 0) ([ak 1 n (aB z),int .i64 (↑k:Int)],[]))))):=ah
theorem alz {n:Nat}:ct T [] [] 30 f185 (behind (aE f185) [1,1,0]) ⟨aA [0,3] [.ak 1 n (aB z),.int .i64 k],[],0⟩=
  some (ag.aj [(0:Nat)*1<=2^24,(0:Int)<=0/\(0:Int)<=(↑k:Int)/\(↑k:Int)<=(↑k:Int)/\(↑k:Int)<=(↑n:Int),((0:Nat)+((↑k:Int).toNat-Int.toNat (0:Int)))*((4:Nat)+1)*2<=2^47] (ag.leaf au.ret [ak 1 ((0:Nat)+((↑k:Int).toNat-Int.toNat (0:Int))) fun(i:Nat)=>if i+0<0 then nth [] (int .u32 (0:Int)) (i+0)else aB z (i+0-0+Int.toNat (0:Int))])):=ah
def vf:Spec:=ck (mq fun N n=>aJ (.mag N) [n<2^40])
def fJ:aX:=[(185,vf)]
theorem V8 {n:Nat}:bX T fJ [] 30 f190 (aE f190) ⟨aN 0 [.int .u64 n],[],0⟩=
  some (ag.aj [(0:Int)<=32,(2:Nat)*1<=2^24,eU 2 fun(i:Nat)=>nth [int .u32 (u32.wrap (↑n:Int)),int .u32 (u32.wrap ((↑n:Int).fdiv ((2:Int)^min (Int.toNat (32:Int)) u64.bits)))] (int .u32 (0:Int)) (i+0),(2:Nat)<2^40] (ag.leaf au.ret [mag (val 2 fun(i:Nat)=>numOf (nth [int .u32 (u32.wrap (↑n:Int)),int .u32 (u32.wrap ((↑n:Int).fdiv ((2:Int)^min (Int.toNat (32:Int)) u64.bits)))] (int .u32 (0:Int)) (i+0)))])):=ah
theorem Xn {A:Nat}:bX T fJ [6,8,14] 30 f227 (aE f227) ⟨aN 0 [.mag A],[],0⟩=
  some (ag.fork ((↑(nl A):Int)==0) (ag.leaf au.ret [int .u64 (0:Int),AV.bool true]) (ag.fork ((↑(nl A):Int)==1) (ag.aj [(0:Int)<=0/\Int.toNat (0:Int)<nl A] (ag.leaf au.ret [int .u64 (u64.wrap (↑(aD A (Int.toNat (0:Int))):Int)),AV.bool true])) (ag.fork ((↑(nl A):Int)==2) (ag.aj [(0:Int)<=0/\Int.toNat (0:Int)<nl A,(0:Int)<=1/\Int.toNat (1:Int)<nl A,(0:Int)<=32] (ag.leaf au.ret [int .u64 (u64.wrap (↑(BitVec.ofInt u64.bits (u64.wrap (↑(aD A (Int.toNat (0:Int))):Int))|||BitVec.ofInt u64.bits (u64.wrap (u64.wrap (↑(aD A (Int.toNat (1:Int))):Int)*2^min (Int.toNat (32:Int)) u64.bits))).toNat:Int)),AV.bool true])) (ag.leaf au.ret [int .u64 (0:Int),AV.bool false])))):=ah
theorem Y2 {A B:Nat}:aI T [] [10,15] 30 [0,1,5,4] (before (aE f126) [1,1,0,1]) ⟨aN 0 [.mag A,.mag B],[],0⟩=
  some (ag.fork ((↑(nl A):Int)!=(↑(nl B):Int)) (ag.fork (decide ((↑(nl A):Int)<(↑(nl B):Int))) (ag.leaf au.ret ([mag A,mag B,tuple [],int .i64 (-1:Int)],[])) (ag.leaf au.ret ([mag A,mag B,tuple [],int .i64 (1:Int)],[]))) (ag.leaf au.normal ([mag A,mag B,int .i64 (i64.wrap ((↑(nl A):Int)-1)),int .i64 (0:Int)],[]))):=ah
theorem ahk {A B:Nat}:aI T [] [20,31,40] 30 [0,1,5,4] [part (aE f126) [1,1,0,1,0,0]] ⟨aA [0,1,5,4] [.mag A,.mag B,.int .i64 ((k:Int)-1),.int .i64 0],[],0⟩=
  some (ag.fork (decide ((↑k:Int)-1>=(0:Int))) (ag.aj [(0:Int)<=(↑k:Int)-1/\((↑k:Int)-1).toNat<nl A,(0:Int)<=(↑k:Int)-1/\((↑k:Int)-1).toNat<nl B] (ag.fork (decide ((↑(aD A ((↑k:Int)-1).toNat):Int)<(↑(aD B ((↑k:Int)-1).toNat):Int))) (ag.leaf au.ret ([mag A,mag B,int .i64 ((↑k:Int)-1),int .i64 (-1:Int)],[])) (ag.aj [(0:Int)<=(↑k:Int)-1/\((↑k:Int)-1).toNat<nl A,(0:Int)<=(↑k:Int)-1/\((↑k:Int)-1).toNat<nl B] (ag.fork (decide ((↑(aD A ((↑k:Int)-1).toNat):Int)>(↑(aD B ((↑k:Int)-1).toNat):Int))) (ag.leaf au.ret ([mag A,mag B,int .i64 ((↑k:Int)-1),int .i64 (1:Int)],[])) (ag.leaf au.normal ([mag A,mag B,int .i64 (i64.wrap ((↑k:Int)-1-(1:Int))),int .i64 (0:Int)],[])))))) (ag.leaf (au.exit 0) ([mag A,mag B,int .i64 ((↑k:Int)-1),int .i64 (0:Int)],[]))):=ah
theorem SG {A B:Nat}:ct T [] [] 30 f126 (behind (aE f126) [1,1,0,1]) ⟨aA [0,1,5,4] [.mag A,.mag B,.int .i64 ((k:Int)-1),.int .i64 0],[],0⟩=
  some (ag.leaf au.ret [int .i64 (0:Int)]):=ah
theorem afy {n:Nat}:aI T [] [7] 30 [3,4,2] (before (aE f228) [1,1,1,0,1]) ⟨aN 0 [.ak 1 n (aB z)],[],0⟩=
  some (ag.fork ((↑n:Int)==0) (ag.leaf au.ret ([tuple [],tuple [],int .i64 (0:Int)],[])) (ag.aj [(0:Int)<=i64.wrap ((↑n:Int)-1)/\(i64.wrap ((↑n:Int)-1)).toNat<n] (ag.leaf au.normal ([int .i64 (i64.wrap ((32:Int)*i64.wrap ((↑n:Int)-1))),int .u32 (↑(z (i64.wrap ((↑n:Int)-1)).toNat):Int),int .i64 (0:Int)],[])))):=ah
theorem aeM {y:Nat}:aI T [] [19] 30 [3,4,2] [part (aE f228) [1,1,1,0,1,0,0]] ⟨aA [3,4,2] [.int .i64 x,.int .u32 y,.int .i64 0],[],0⟩=
  some (ag.fork ((↑y:Int)!=0) (ag.aj [(0:Int)<=1] (ag.leaf au.normal ([int .i64 (i64.wrap ((↑x:Int)+1)),int .u32 ((↑y:Int).fdiv ((2:Int)^min (Int.toNat (1:Int)) u32.bits)),int .i64 (0:Int)],[]))) (ag.leaf (au.exit 0) ([int .i64 (↑x:Int),int .u32 (↑y:Int),int .i64 (0:Int)],[]))):=ah
theorem acF {y:Nat}:ct T [] [] 30 f228 (behind (aE f228) [1,1,1,0,1]) ⟨aA [3,4,2] [.int .i64 x,.int .u32 y,.int .i64 0],[],0⟩=
  some (ag.leaf au.ret [int .i64 (↑x:Int)]):=ah
theorem abO {n:Nat} (hz:∀i,i<n->z i<2^32) (hn:n<2^40) (K:Nat):aQ P 185 K [.ak 1 n (aB z)] [] (aJ (.mag (val n z)) []):=by
 refine fV hT ac7 rfl aV rfl (fun _ c h0=>?_) K [];refine ax.hole [1,1,0] ah (aG.bE hT bw hm 30 [0,3] alg ah fun s' hv=>cV ?_);refine ax.iN (i:=0) (y:=part (aE f185) [1,1,0,0,0]) ah [0,3] 0 (h0 _) (fun k:Nat=>[.ak 1 n (aB z),.int .i64 k]) (fun _=>[]) (fun _=>rfl) (fun _=>trivial)
  (fun k=>k<=n/\∀i,k<=i->i<n->z i=0) id n hv ⟨bq,fun i h1 h2=>aa⟩ ?_
 rintro j ⟨hj,hzj⟩;refine ax.bE hT bw hm 30 [0,3] ajd ah ?_;have fin:(j=0\/z (j-1)≠0)->∀s',bD [0,3] s'=some ([.ak 1 n (aB z),.int .i64 j],[])->aG P c f185.ntmps (behind (aE f185) [1,1,0]) s' (ej c (Fin T f185 (.mag (val n z)))):=by
  intro hj0 s' hv;refine aG.lE hT bw hm 30 hv (h0 0) rfl trivial alz ah ah ?_;simp only[ag.all,ay,bg,Int.toNat_zero,Nat.zero_add,Nat.sub_zero,Nat.add_zero];have e:val n z=val j z:=nV hj hzj;refine⟨⟨aa,aa,aa⟩,mu (by rw[e,Dg (fun i hi=>hz i aa) hj0]) fun i hi=>?_⟩;rw[if_neg aa,e,qw (fun j hj=>hz j aa) hi];rfl
 have hw:0<j->i64.wrap ((j:Int)-1)=((j-1:Nat):Int):=fun h=>by rw[wrap_i64 aa aa];omega
 refine⟨fun hb=>?_,fun hb=>?_⟩
 ·have h1:0<j:=by simpa using hb
  rw[hw h1];have hj1:j-1<n:=aa;refine⟨⟨hb,aa,by rw[bg];exact hj1⟩,fun hc s' hv=>?_,fun hc s' hv=>?_⟩
  ·refine⟨j-1,hv,⟨aa,fun i h1 h2=>?_⟩,by simp;omega⟩;by_cases hi:i=j-1
   ·subst hi;simpa using hc
   ·exact hzj i aa h2
  ·exact gk (fin (.inr (by simpa using hc)) s' hv)
 ·have h1:j=0:=by simpa using hb
  refine⟨hb,fun hc=>by simp at hc,fun hc s' hv=>gk (fin (.inl h1) s' hv)⟩
theorem wK:aW P vf 185:=
 cK (wA fun _ _ K hz need=>abO hz need K)
theorem fO:bn P fJ:=aH wK bw
theorem agQ (hx:x<2^64) (K:Nat):aQ P 190 K [.int .u64 x] [] (aJ (.mag x) []):=by
 refine b9 hT fO hm ajC rfl aV rfl 30 V8 (fun _=>?_) K [];simp only[ag.all,ay,mW];refine⟨⟨aa,aa,fun i hi=>?_,aa⟩,dY (congrArg AV.mag ?_)⟩
 ·match i,hi with
  |0,_=>exact⟨x%2^32,aa,by simp[nth,kB]⟩
  |1,_=>exact⟨x/4294967296,aa,by simp[nth,mI];omega⟩
 ·rw[val_two];simp[nth,numOf,mI];omega
def xM:Spec:=ck fun l=>match l with
 |[.int .u64 x]=>some (aJ (.mag x.toNat) [0<=x/\x<2^64])
 |_=>none
theorem CU:aW P xM 190:=by
 refine cK fun K args r hk hs _=>?_;split at hs
 ·simp only[az]at hs;subst hs;intro need;obtain⟨h1,h2⟩:=need;rename_i x;obtain⟨y,rfl⟩:=Int.eq_ofNat_of_zero_le h1;exact agQ (x:=y) aa K trivial
 ·simp at hs
def gH (A:Nat):Bool:=decide (A<18446744073709551616)
theorem ai2 {A:Nat} (K:Nat):aQ P 227 K [.mag A] [] (aJ (.tuple [.int .u64 (if gH A then A else 0:Nat),.bool (gH A)]) []):=by
 refine b9 hT fO hm VL rfl aV rfl 30 Xn (fun _=>?_) K [];simp only[ag.all,ay,beq_iff_eq,beq_eq_false_iff_ne,ne_eq,Int.toNat_zero,show Int.toNat 1=1 from rfl];have hv:=gL (N:=A);have l0:=ec (N:=A) (i:=0);have l1:=ec (N:=A) (i:=1);have yes:∀{x:Int},A<2^64->x=(A:Nat)->fF [.int .u64 x,.bool true] (.tuple [.int .u64 (if gH A then A else 0:Nat),.bool (gH A)]):=fun h hx=>by
  have:gH A=true:=by unfold gH;simpa using h
  rw[this,if_pos rfl];exact⟨bP hx,.refl _,trivial⟩
 refine⟨fun hb=>yes ?_ ?_,fun hb=>⟨fun h1=>⟨aa,yes ?_ ?_⟩,fun h1=>⟨fun h2=>⟨⟨aa,aa,aa⟩,yes ?_ ?_⟩,fun h2=>?_⟩⟩⟩
 ·have:A=0:=jX.1 aa;omega
 ·have:A=0:=jX.1 aa;rw[this];rfl
 ·exact rI aa
 ·rw[show nl A=1 by omega,val,val]at hv;rw[cC aa aa];simp at hv;omega
 ·exact rI aa
 ·rw[show nl A=2 by omega,val,val,val]at hv;have e1:u64.wrap (aD A 0:Int)=((aD A 0:Nat):Int):=cC aa aa;have e2:u64.wrap (aD A 1:Int)=((aD A 1:Nat):Int):=cC aa aa;have e3:u64.wrap ((aD A 1:Int)*2^min (Int.toNat 32) u64.bits)=((aD A 1*4294967296:Nat):Int):=by
   rw[xQ,cC aa aa];omega
  rw[e1,e2,e3,uX aa aa];congr 1;rw[Nat.or_comm,show 4294967296=2^32 from rfl,tQ l0];simp at hv;omega
 ·have:gH A=false:=by
   unfold gH;simp only[bC];intro h;have:nl A<=2:=dL.2 h;omega
  rw[this];exact⟨.refl _,.refl _,trivial⟩
def Es:Spec:=ck fun l=>match l with
 |[a]=>match jI a with
  |some A=>some (aJ (.tuple [.int .u64 (if gH A then A else 0:Nat),.bool (gH A)]) [])
  |none=>none
 |_=>none
theorem Pr:aW P Es 227:=by
 refine cK fun K args r hk hs _=>?_;split at hs
 ·split at hs
  ·rename_i A hA;simp only[az]at hs;subst hs;exact gW (ai2 K) hk ⟨mL hA,trivial⟩ []
  ·simp at hs
 ·simp at hs
theorem Tq {A B:Nat} (hA:nl A<2^40) (hB:nl B<2^40) (K:Nat):aQ P 126 K [.mag A,.mag B] [] (aJ (.int .i64 (dw A B)) []):=by
 refine fV hT TA rfl aV rfl (fun _ c h0=>?_) K [];refine ax.hole [1,1,0,1] ah (aG.bE hT bw hm 30 [0,1,5,4] Y2 ah ?_);simp only[ag.all,ay,br,bC,bne_iff_ne,ne_eq,Int.natCast_inj,bne_eq_false_iff_eq];refine⟨fun hb=>⟨fun hb2 s' hv=>gd (.inl ?_),fun hb2 s' hv=>gd (.inl ?_)⟩,fun hb s' hv=>cV ?_⟩
 ·have h1:A<B:=AG aa;exact iw (us:=[.int .i64 (-1)]) (.inr rfl) hv ah (bP (by simp[dw,h1]))
 ·have h1:B<A:=AG aa;exact iw (us:=[.int .i64 1]) (.inr rfl) hv ah (bP (by simp[dw,h1];omega))
 refine ax.iN (i:=0) (y:=part (aE f126) [1,1,0,1,0,0]) ah [0,1,5,4] 0 (h0 _) (fun k:Nat=>[.mag A,.mag B,.int .i64 ((k:Int)-1),.int .i64 0]) (fun _=>[]) (fun _=>rfl) (fun _=>trivial)
  (fun k=>k<=nl A/\∀j,k<=j->j<nl A->aD A j=aD B j) id (nl A) (er hv (by rw[wrap_i64 aa aa]) rfl) ⟨by simp,fun j h1 h2=>aa⟩ ?_
 rintro k ⟨hk,hlim⟩;refine ax.bE hT bw hm 30 [0,1,5,4] ahk ah ?_;simp only[ag.all,ay,br,bC];refine⟨fun hb2=>?_,fun hb2 s' hv=>gk ?_⟩
 ·obtain⟨j,rfl⟩:∃j,k=j+1:=⟨k-1,aa⟩
  have e:(((j+1:Nat):Int)-1).toNat=j:=aa;rw[e];refine⟨⟨aa,aa⟩,fun hlt s' hv=>Lk (gd (.inl ?_)),fun hlt=>⟨⟨aa,aa⟩,fun hgt s' hv=>Lk (gd (.inl ?_)),fun hgt s' hv=>?_⟩⟩
  ·have h1:A<B:=B9 hb (k:=j) aa (fun i h1 h2=>hlim i aa h2) aa;exact iw (us:=[.int .i64 (-1)]) (.inr rfl) hv ah (bP (by simp[dw,h1]))
  ·have h1:B<A:=B9 hb.symm (k:=j) aa (fun i h1 h2=>(hlim i aa aa).symm) aa;exact iw (us:=[.int .i64 1]) (.inr rfl) hv ah (bP (by simp[dw,h1];omega))
  ·refine⟨j,er hv (by rw[wrap_i64 aa aa];congr 4;omega) rfl,⟨aa,fun i h1 h2=>?_⟩,by simp⟩;by_cases hi:i=j
   ·subst hi;omega
   ·exact hlim i aa h2
 ·have hk0:k=0:=aa;have hAB:A=B:=E3 hb fun i hi=>hlim i aa hi;exact cV (aG.lE hT bw hm 30 hv (h0 0) rfl trivial SG ah ah (bP (by simp[dw,hAB])))
def nQ (g:Nat->Nat->AV) (l:Nat->Nat->List Prop):Spec:=ck fun a=>match a with
 |[x,y]=>match jI x,jI y with
  |some A,some B=>some (aJ (g A B) (l A B))
  |_,_=>none
 |_=>none
theorem qR {f:FuncId} {g:Nat->Nat->AV} {l:Nat->Nat->List Prop} (h:∀{A B:Nat},ay (l A B)->∀K,aQ P f K [.mag A,.mag B] [] (aJ (g A B) [])):aW P (nQ g l) f:=by
 refine cK fun K args r hk hs _=>?_;split at hs
 ·split at hs
  ·rename_i A B hA hB;simp only[az]at hs;subst hs;exact fun need=>gW (h need K) hk ⟨mL hA,mL hB,trivial⟩ [] trivial
  ·simp at hs
 ·simp at hs
abbrev Fh (A B:Nat):List Prop:=[nl A<2^40,nl B<2^40]
def yP:Spec:=nQ (fun A B=>.int .i64 (dw A B)) Fh
theorem CC:aW P yP 126:=qR fun h=>Tq h.1 h.2
theorem amw {n:Nat} (hz:∀i,i<n->z i<2^32) (hn:n<2^40) (hnl:nl (val n z)=n) (K:Nat):aQ P 228 K [.ak 1 n (aB z)] [] (aJ (.int .i64 (bT (val n z):Nat)) []):=by
 refine fV hT T0 rfl aV rfl (fun _ c h0=>?_) K [];refine ax.hole [1,1,1,0,1] ah (aG.bE hT bw hm 30 [3,4,2] afy ah ?_);simp only[ag.all,ay,beq_iff_eq,beq_eq_false_iff_ne,ne_eq];refine⟨fun hb s' hv=>gd (.inl ?_),fun hb=>?_⟩
 ·have h1:n=0:=aa;have h2:val n z=0:=by rw[h1];rfl
  exact iw (us:=[.int .i64 0]) (.inr rfl) hv ah (bP (by rw[h2];rfl))
 have w1:i64.wrap ((n:Int)-1)=((n-1:Nat):Int):=fz aa aa;have w2:i64.wrap (32*((n-1:Nat):Int))=((32*(n-1):Nat):Int):=fz aa aa;rw[w1,w2];simp only[bg];refine⟨aa,fun s' hv=>cV ?_⟩;have hzt:=hz (n-1) aa;have htot:bT (val n z)=32*(n-1)+bT (z (n-1)):=by
  have h0:val n z≠0:=g8.1 aa;rw[O5 h0,hnl,qw hz aa]
 refine ax.iN (i:=0) (y:=part (aE f228) [1,1,1,0,1,0,0]) ah [3,4,2] 0 (h0 _) (fun p:Nat×Nat=>[.int .i64 (p.1:Nat),.int .u32 (p.2:Nat),.int .i64 0]) (fun _=>[]) (fun _=>rfl) (fun _=>trivial)
  (fun p=>p.1+bT p.2=bT (val n z)/\p.2<2^32) (fun p=>p.2) (32*(n-1),z (n-1)) hv ⟨htot.symm,hzt⟩ ?_
 rintro⟨x,y⟩ ⟨hxy,hy⟩;simp only at hxy hy;have hb32:bT (z (n-1))<=32:=iS.2 hzt;refine ax.bE hT bw hm 30 [3,4,2] aeM ah ?_;rw[Ah (by decide) (by decide)];simp only[ag.all,ay,bne_iff_ne,ne_eq,bne_eq_false_iff_eq,show Int.toNat 1=1 from rfl];refine⟨fun hc=>⟨aa,fun s' hv=>?_⟩,fun hc s' hv=>gk (cV ?_)⟩
 ·have hy0:0<y:=aa;have e:bT y=1+bT (y/2):=by
   by_cases h1:y=1
   ·rw[h1];decide
   ·exact v9 (k:=1) aa
  have hd:y/2<y:=aa;exact⟨(x+1,y/2),er hv (by rw[fz (a:=(x:Int)+1) (n:=x+1) aa aa]) rfl,⟨by simp only;omega,by simp only;omega⟩,by simp only;omega⟩
 ·have hy0:y=0:=aa;refine aG.lE hT bw hm 30 hv (h0 0) rfl trivial acF ah ah (bP ?_);rw[hy0]at hxy;simp[bT]at hxy;rw[hxy];simp[bT]
def Fv:Spec:=ck (mq fun N n=>aJ (.int .i64 (bT N:Nat)) [n<2^40,nl N=n])
theorem Pu:aW P Fv 228:=
 cK (wA fun _ _ K hz need=>amw hz need.1 need.2 K)
theorem aaz:aU 125 f125:=aS func125
abbrev fk:List Nat:=[0,1,5,6,7]
abbrev x9 (A B c i:Nat):List AV:=[.mag A,.mag B,.own 7 1 0 i,.int .u64 c,.int .i64 i]
abbrev pO (i:Nat) (o:Nat->Nat):aC:=[(7,⟨true,true,1,i,aB o⟩)]
abbrev jE:Code:=part (aE f125) [1,1,1,0,1,0,0]
theorem adW {A B:Nat}:aI T fJ [] 60 fk (before (aE f125) [1,1,1,0,1]) ⟨aN 0 [.mag A,.mag B],[],0⟩=
  some (ag.leaf au.normal ([mag A,mag B,nil,int .u64 (0:Int),int .i64 (0:Int)],[])):=ah
theorem Xe {A B:Nat}:aI T fJ [12,18,21] 60 fk [part jE [0]] ⟨aA fk [.mag A,.mag B,.nil,.int .u64 c,.int .i64 0],[],8⟩=
  let d:=bif false then true else decide ((0:Int)<(↑(nl B):Int));let a:=decide ((0:Int)<(↑(nl A):Int));let b:List AV×aC:=([mag A,mag B,nil,int .u64 (↑c:Int),int .i64 (0:Int)],[]);let f:ag (List AV×aC):=ag.fork true (ag.leaf au.normal b) (ag.leaf (au.exit 0) b);let e:ag (List AV×aC):=ag.fork (bif false then true else(↑c:Int)!=0) (ag.leaf au.normal b) (ag.leaf (au.exit 0) b);some (ag.fork a (ag.fork true (ag.aj [a=true,true=true] f) (ag.aj [a=true,true=false] e)) (ag.fork d (ag.aj [a=false,d=true] f) (ag.aj [a=false,d=false] e))):=ah
theorem Vd {A B:Nat}:aI T fJ [12,18,21] 60 fk [part jE [0]] ⟨aA fk (x9 A B c i),pO i o,8⟩=
  let f:=(↑i:Int);let e:=bif false then true else decide (f<(↑(nl B):Int));let b:=decide (f<(↑(nl A):Int));let d:List AV×aC:=([mag A,mag B,own 7 1 0 i,int .u64 (↑c:Int),int .i64 f],[(7,aq.mk true true 1 i fun a=>int .u32 (↑(o a):Int))]);let h:ag (List AV×aC):=ag.fork true (ag.leaf au.normal d) (ag.leaf (au.exit 0) d);let g:ag (List AV×aC):=ag.fork (bif false then true else(↑c:Int)!=0) (ag.leaf au.normal d) (ag.leaf (au.exit 0) d);some (ag.fork b (ag.fork true (ag.aj [b=true,true=true] h) (ag.aj [b=true,true=false] g)) (ag.fork e (ag.aj [b=false,e=true] h) (ag.aj [b=false,e=false] g))):=ah
theorem T4 {A B:Nat}:aI T fJ [27,38] 60 fk (before (part jE [1,0,0]) [1,1]) ⟨aA fk [.mag A,.mag B,.nil,.int .u64 c,.int .i64 0],[],8⟩=
  let d:=(0:Int)<=0;let f:=(↑(nl B):Int);let b:=[int .i64 (0:Int)];let a:=Int.toNat (0:Int);let g:=u64.wrap (↑(aD B a):Int);let e:=u64.wrap ((↑c:Int)+u64.wrap (↑(aD A a):Int));some (ag.fork (decide ((0:Int)<(↑(nl A):Int))) (ag.aj [d/\a<nl A] (ag.fork (decide ((0:Int)<f)) (ag.aj [d/\a<nl B] (ag.leaf au.normal (mag A::mag B::nil::int .u64 (u64.wrap (e+g))::b,[]))) (ag.leaf au.normal (mag A::mag B::nil::int .u64 e::b,[])))) (ag.fork (decide ((0:Int)<f)) (ag.aj [d/\a<nl B] (ag.leaf au.normal (mag A::mag B::nil::int .u64 (u64.wrap ((↑c:Int)+g))::b,[]))) (ag.leaf au.normal (mag A::mag B::nil::int .u64 (↑c:Int)::b,[])))):=ah
theorem alU {A B:Nat}:aI T fJ [27,38] 60 fk (before (part jE [1,0,0]) [1,1]) ⟨aA fk (x9 A B c i),pO i o,8⟩=
  let j:=(↑(nl B):Int);let e:=own 7 1 0 i;let b:=(↑i:Int);let d:Nat×aq:=(7,aq.mk true true 1 i fun a=>int .u32 (↑(o a):Int));let k:=(0:Int)<=b/\b.toNat<nl B;let h:=u64.wrap (↑(aD B b.toNat):Int);let f:=[int .i64 b];let g:=u64.wrap ((↑c:Int)+u64.wrap (↑(aD A b.toNat):Int));some (ag.fork (decide (b<(↑(nl A):Int))) (ag.aj [(0:Int)<=b/\b.toNat<nl A] (ag.fork (decide (b<j)) (ag.aj [k] (ag.leaf au.normal (mag A::mag B::e::int .u64 (u64.wrap (g+h))::f,[d]))) (ag.leaf au.normal (mag A::mag B::e::int .u64 g::f,[d])))) (ag.fork (decide (b<j)) (ag.aj [k] (ag.leaf au.normal (mag A::mag B::e::int .u64 (u64.wrap ((↑c:Int)+h))::f,[d]))) (ag.leaf au.normal (mag A::mag B::e::int .u64 (↑c:Int)::f,[d])))):=ah
theorem aao {A B:Nat}:aI T fJ [] 60 fk [part (part jE [1,0,0]) [1,1]] ⟨aA fk [.mag A,.mag B,.nil,.int .u64 c,.int .i64 0],[],8⟩=
  some (ag.aj [(1:Nat)*1<=2^24,(0:Nat)<1/\1*((4:Nat)+1)*2<=2^47] (ag.aj [(0:Int)<=32] (ag.leaf au.normal ([mag A,mag B,own 16392 1 0 1,int .u64 ((↑c:Int).fdiv ((2:Int)^min (Int.toNat (32:Int)) u64.bits)),int .i64 (0:Int)],[(16392,aq.mk true true 1 1 fun i=>nth [int .u32 (u32.wrap (↑c:Int))] (int .u32 (0:Int)) (i+0))])))):=ah
theorem akC {A B:Nat}:aI T fJ [] 60 fk [part (part jE [1,0,0]) [1,1]] ⟨aA fk (x9 A B c i),pO i o,8⟩=
  some (ag.aj [(1:Nat)*1<=2^24,(i+1)*((4:Nat)+1)*2<=2^47] (ag.aj [(0:Int)<=32] (ag.leaf au.normal ([mag A,mag B,own 16392 1 0 (i+1),int .u64 ((↑c:Int).fdiv ((2:Int)^min (Int.toNat (32:Int)) u64.bits)),int .i64 (↑i:Int)],[(16392,aq.mk true true 1 (i+1) fun i_1=>if i_1<i then aB o i_1 else nth [int .u32 (u32.wrap (↑c:Int))] (int .u32 (0:Int)) (i_1-i+0))])))):=ah
theorem SY {A B:Nat}:aI T fJ [] 60 fk [part jE [1,1]] ⟨aA fk [.mag A,.mag B,.own 7 1 0 i,.int .u64 c,.int .i64 j],pO i o,8⟩=
  some (ag.leaf au.normal ([mag A,mag B,own 7 1 0 i,int .u64 (↑c:Int),int .i64 (i64.wrap ((↑j:Int)+1))],[(7,aq.mk true true 1 i fun a=>int .u32 (↑(o a):Int))])):=ah
theorem ajU {A B:Nat}:ct T fJ [] 60 f125 (behind (aE f125) [1,1,1,0,1]) ⟨aA fk [.mag A,.mag B,.nil,.int .u64 c,.int .i64 0],[],8⟩=
  some (ag.leaf au.ret [nil]):=ah
theorem aiz {A B:Nat}:ct T fJ [] 60 f125 (behind (aE f125) [1,1,1,0,1]) ⟨aA fk (x9 A B c i),pO i o,8⟩=
  some (ag.leaf au.ret [ak 1 i fun i=>int .u32 (↑(o (i+0)):Int)]):=ah
theorem j9 {A:Nat} (h:nl A<=i):aD A i=0:=by
 unfold aD;rw[Nat.div_eq_of_lt (dL.1 h)]
def nw (A B c:Nat):Nat->List AV
 |0=>[.mag A,.mag B,.nil,.int .u64 c,.int .i64 0]
 |i+1=>x9 A B c (i+1)
def ny (o:Nat->Nat):Nat->aC
 |0=>[]
 |i+1=>pO (i+1) o
theorem rO {A B:Nat}:kA 8 (nw A B c i)=true:=by cases i<;>rfl
theorem rz:iQ 8 (ny o i):=by
 cases i
 ·trivial
 ·exact⟨⟨aa,fun _ _=>rfl⟩,trivial⟩
section fadd
variable {c0:Ctx} (h0:c0.k0=bB) {A B:Nat} {Q:au->aK->Prop}
include h0 in
theorem SV {s':aK} (hc:c<=1) (hv:bD fk s'=some (nw A B c i,ny o i))
  (fin:∀s',bD fk s'=some (nw A B (c+aD A i+aD B i) i,ny o i)->Q .normal s'):aG P c0 f125.ntmps (before (part jE [1,0,0]) [1,1]) s' Q:=by
 have la:=ec (N:=A) (i:=i);have lb:=ec (N:=B) (i:=i);have wa:u64.wrap (aD A i:Int)=((aD A i:Nat):Int):=cC aa aa;have wb:u64.wrap (aD B i:Int)=((aD B i:Nat):Int):=cC aa aa;have w1:u64.wrap ((c:Int)+((aD A i:Nat):Int))=((c+aD A i:Nat):Int):=by rw[cC aa aa];omega
 have w2:u64.wrap ((c:Int)+((aD B i:Nat):Int))=((c+aD B i:Nat):Int):=by rw[cC aa aa];omega
 have w3:u64.wrap (((c+aD A i:Nat):Int)+((aD B i:Nat):Int))=((c+aD A i+aD B i:Nat):Int):=by rw[cC aa aa];omega
 cases i with
 |zero=>
  refine aG.fW hT fO hm 60 hv (kO h0) rO rz fk T4 ah ah ?_;simp only[ag.all,ay,br,bC,Int.toNat_zero];rw[wa,wb,w1,w2,w3];refine⟨fun h1=>⟨aa,fun h2=>⟨aa,fun s' hv=>fin s' hv⟩,fun h2 s' hv=>fin s' (er hv ?_ rfl)⟩,fun h1=>⟨fun h2=>⟨aa,fun s' hv=>fin s' (er hv ?_ rfl)⟩,fun h2 s' hv=>fin s' (er hv ?_ rfl)⟩⟩
  ·rw[j9 (A:=B) aa];rfl
  ·rw[j9 (A:=A) aa];rfl
  ·rw[j9 (A:=A) aa,j9 (A:=B) aa];rfl
 |succ i=>
  refine aG.fW hT fO hm 60 hv (kO h0) rO rz fk alU ah ah ?_;simp only[ag.all,ay,br,bC,bg];rw[wa,wb,w1,w2,w3];refine⟨fun h1=>⟨aa,fun h2=>⟨aa,fun s' hv=>fin s' hv⟩,fun h2 s' hv=>fin s' (er hv ?_ rfl)⟩,fun h1=>⟨fun h2=>⟨aa,fun s' hv=>fin s' (er hv ?_ rfl)⟩,fun h2 s' hv=>fin s' (er hv ?_ rfl)⟩⟩
  ·rw[j9 (A:=B) aa];rfl
  ·rw[j9 (A:=A) aa];rfl
  ·rw[j9 (A:=A) aa,j9 (A:=B) aa];rfl
include h0 in
theorem amB {s':aK} (hi:i<2^41) (hv:bD fk s'=some (nw A B c i,ny o i))
  (fin:∀s',(∃ρ,Le c0 ρ s' ⟨aA fk [.mag A,.mag B,.own 7 1 0 (i+1),.int .u64 (c/4294967296:Nat),.int .i64 i],pO (i+1) (cR o i (c%4294967296)),8⟩)->Q .normal s'):ax P c0 f125.ntmps (part (part jE [1,0,0]) [1,1]) s' Q:=by
 have hd:(c:Int).fdiv (2^min (Int.toNat 32) u64.bits)=((c/4294967296:Nat):Int):=by rw[mW];omega
 cases i with
 |zero=>
  refine ax.fW hT fO hm 60 hv (kO h0) rO rz fk aao ah ?_;rw[hd];simp only[ag.all,ay];refine⟨⟨aa,aa,aa⟩,aa,fun s' hv=>fin s' ?_⟩;refine dP (vs:=[.mag A,.mag B,.own 7 1 0 1,.int .u64 (c/4294967296:Nat),.int .i64 0]) (ps:=pO 1 (cR o 0 (c%4294967296))) (nx:=8) [(7,16392)] hv h0 rfl ⟨aM,aM,⟨rfl,cN rfl rfl rfl⟩,aM,aM,trivial⟩
   ⟨⟨_,_,rfl,rfl,gn rfl fun j hj=>?_⟩,trivial⟩
  have:j=0:=aa;subst this;simp[nth,aB,lp,kB]
 |succ i=>
  refine ax.fW hT fO hm 60 hv (kO h0) rO rz fk akC ah ?_;rw[hd];simp only[ag.all,ay];refine⟨⟨aa,aa⟩,aa,fun s' hv=>fin s' ?_⟩;refine dP (vs:=[.mag A,.mag B,.own 7 1 0 (i+1+1),.int .u64 (c/4294967296:Nat),.int .i64 ((i+1:Nat):Int)]) (ps:=pO (i+1+1) (cR o (i+1) (c%4294967296))) (nx:=8) [(7,16392)] hv h0 rfl ⟨aM,aM,⟨rfl,cN rfl rfl rfl⟩,aM,aM,trivial⟩
   ⟨⟨_,_,rfl,rfl,gn rfl fun j hj=>?_⟩,trivial⟩
  by_cases h:j<i+1
  ·rw[if_pos h];unfold aB;rw[gz aa]
  ·have:j=i+1:=aa;subst this;simp[nth,aB,lp,kB]
end fadd
theorem aib {c0:Ctx} {Q:au->aK->Prop} {A B:Nat} (yes:∀s',(i<nl A\/i<nl B\/c≠0)->bD fk s'=some (nw A B c i,ny o i)->Q .normal s')
  (no:∀s',nl A<=i->nl B<=i->c=0->bD fk s'=some (nw A B c i,ny o i)->Q (.exit 0) s'):ax P c0 f125.ntmps (part jE [0]) ⟨aA fk (nw A B c i),ny o i,8⟩ Q:=by
 cases i with
 |zero=>
  refine ax.bE hT fO hm 60 fk Xe ah ?_;refine⟨fun h=>⟨fun _=>⟨⟨h,rfl⟩,fun _ s' hv=>yes s' (.inl (by have:=of_decide_eq_true h;omega)) hv,fun hf=>by simp at hf⟩,fun hf=>by simp at hf⟩,
   fun h=>⟨fun h2=>⟨⟨h,h2⟩,fun _ s' hv=>yes s' (.inr (.inl (by have:=of_decide_eq_true (jk h2);omega))) hv,fun hf=>by simp at hf⟩,
    fun h2=>⟨⟨h,h2⟩,fun h3 s' hv=>yes s' (.inr (.inr ?_)) hv,fun h3 s' hv=>no s' ?_ ?_ ?_ hv⟩⟩⟩
  ·have:=jk h3;simp at this;exact this
  ·have:=of_decide_eq_false h;omega
  ·have:=of_decide_eq_false (jk h2);omega
  ·have:=jk h3;simp at this;exact this
 |succ i=>
  refine ax.bE hT fO hm 60 fk Vd ah ?_;refine⟨fun h=>⟨fun _=>⟨⟨h,rfl⟩,fun _ s' hv=>yes s' (.inl (by have:=of_decide_eq_true h;omega)) hv,fun hf=>by simp at hf⟩,fun hf=>by simp at hf⟩,
   fun h=>⟨fun h2=>⟨⟨h,h2⟩,fun _ s' hv=>yes s' (.inr (.inl (by have:=of_decide_eq_true (jk h2);omega))) hv,fun hf=>by simp at hf⟩,
    fun h2=>⟨⟨h,h2⟩,fun h3 s' hv=>yes s' (.inr (.inr ?_)) hv,fun h3 s' hv=>no s' ?_ ?_ ?_ hv⟩⟩⟩
  ·have:=jk h3;simp at this;exact this
  ·have:=of_decide_eq_false h;omega
  ·have:=of_decide_eq_false (jk h2);omega
  ·have:=jk h3;simp at this;exact this
theorem adK {A B:Nat} (hA:nl A<2^40) (hB:nl B<2^40) (K:Nat):aQ P 125 K [.mag A,.mag B] [] (aJ (.mag (A+B)) []):=by
 refine kK hT aaz rfl aV rfl (fun _ c0 h0=>.down ?_) K [];refine ax.hole [1,1,1,0,1] ah (aG.bE hT fO hm 60 fk adW ah fun s' hv=>cV ?_);refine ax.jr (i:=0) (y:=jE) ah (fun p:Nat×Nat×(Nat->Nat)=>⟨aA fk (nw A B p.2.1 p.1),ny p.2.2 p.1,8⟩)
  (fun p=>(p.1<=max (nl A) (nl B)\/(p.1=max (nl A) (nl B)+1/\p.2.1=0/\2^(32*max (nl A) (nl B))<=A+B))/\p.2.1<=1/\(∀j,j<p.1->p.2.2 j<2^32)/\val p.1 p.2.2+p.2.1*2^(32*p.1)=val p.1 (aD A)+val p.1 (aD B))
  (fun p=>max (nl A) (nl B)+1-p.1) (0,0,fun _=>0) (oP hv (kO h0) rO rz) ⟨by simp,by simp,fun j hj=>by simp only at hj;omega,by simp[val]⟩ ?_
 rintro⟨i,c,o⟩ ⟨hi,hc,ho,hval⟩;simp only at hi hc ho hval;have hAv:max (nl A) (nl B)<=i->val i (aD A)+val i (aD B)=A+B:=fun h=>by
  rw[qF (dL.1 aa),qF (dL.1 aa)]
 -- a round
 have body:∀{s':aK},(i<nl A\/i<nl B\/c≠0)->bD fk s'=some (nw A B c i,ny o i)->∀{QF:au->aK->Prop},
   ax P c0 f125.ntmps (part jE [1]) s' (eH (fun s'=>∃k:Nat×Nat×(Nat->Nat),(∃ρ,Le c0 ρ s' ⟨aA fk (nw A B k.2.1 k.1),ny k.2.2 k.1,8⟩)/\
    ((k.1<=max (nl A) (nl B)\/(k.1=max (nl A) (nl B)+1/\k.2.1=0/\2^(32*max (nl A) (nl B))<=A+B))/\k.2.1<=1/\(∀j,j<k.1->k.2.2 j<2^32)/\val k.1 k.2.2+k.2.1*2^(32*k.1)=val k.1 (aD A)+val k.1 (aD B))/\
    max (nl A) (nl B)+1-k.1<max (nl A) (nl B)+1-i) QF):=by
  intro s' hcont hv QF;have hi':i<=max (nl A) (nl B):=aa;have la:=ec (N:=A) (i:=i);have lb:=ec (N:=B) (i:=i);refine ax.hole [0] ah ?_;show ax P c0 f125.ntmps (part jE [1,0]) s' _;refine ax.qH (i:=1) (y:=part jE [1,0,0]) ah ?_;refine ax.hole [1,1] ah (SV h0 hc hv fun s' hv=>cV (amB h0 aa hv fun s' hle=>cV ?_));show aG P c0 f125.ntmps [part jE [1,1]] s' _;refine aG.weak rfl hle (aG.bE hT fO hm 60 fk SY ah fun s' hv=>cV ?_);have hs:=HL (B:=2^(32*i)) (c:=c) (z:=aD A i) (y:=aD B i) rfl hval;refine⟨(i+1,(c+aD A i+aD B i)/4294967296,cR o i ((c+aD A i+aD B i)%4294967296)),oP (er hv ?_ rfl) (kO h0) rO rz,⟨?_,by simp only;omega,fun j hj=>?_,?_⟩,by simp only;omega⟩
  ·rw[fz (a:=(i:Int)+1) (n:=i+1) aa aa];rfl
  ·simp only;by_cases h:i<max (nl A) (nl B)
   ·exact .inl aa
   ·have e:i=max (nl A) (nl B):=aa;have lA:=j9 (A:=A) (i:=i) aa;have lB:=j9 (A:=B) (i:=i) aa;refine .inr ⟨aa,by rw[lA,lB];omega,?_⟩;rw[hAv aa]at hval;have hc1:c=1:=aa;rw[hc1,Nat.one_mul,e]at hval;omega
  ·simp only at hj ⊢;unfold cR;split
   ·omega
   ·exact ho j aa
  ·simp only;rw[tW,val,val,iV];omega
 -- the end
 have fin:∀{s':aK},nl A<=i->nl B<=i->c=0->bD fk s'=some (nw A B c i,ny o i)->aG P c0 f125.ntmps (behind (aE f125) [1,1,1,0,1]) s' (ej c0 (Fin T f125 (.mag (A+B)))):=by
  intro s' h1 h2 h3 hv;have hsum:val i o=A+B:=by rw[hAv aa,h3]at hval;omega
  cases i with
  |zero=>
   have:A+B=0:=by rw[<-hsum];rfl
   refine aG.lE hT fO hm 60 hv (kO h0) rO rz ajU ah ah ?_;rw[this];exact lT
  |succ i=>
   refine aG.lE hT fO hm 60 hv (kO h0) rO rz aiz ah ah ?_;refine mu ?_ fun j hj=>?_
   ·have l1:nl (A+B)<=i+1:=dL.2 (by rw[<-hsum];exact gB ho);have l2:¬nl (A+B)<=i:=by
     intro h;rcases hi with hi|⟨hi,_,hi2⟩
     ·have:=iF (show A<=A+B by omega);have:=iF (show B<=A+B by omega);omega
     ·rw[dL]at h;rw[show max (nl A) (nl B)=i by omega]at hi2;omega
    omega
   ·rw[<-hsum,qw ho hj];rfl
 refine ax.hole [0] ah (show ax P c0 f125.ntmps (part jE [0]) _ _ from aib (fun s' h hv=>cV ?_) fun s' h1 h2 h3 hv=>tc (gk (cV (fin h1 h2 h3 hv))));show aG P c0 f125.ntmps [part jE [1]] s' _;exact body h hv
def QB:Spec:=nQ (fun A B=>.mag (A+B)) Fh
theorem aau:aW P QB 125:=qR fun h=>adK h.1 h.2
end Go.Am.B
namespace Go.Am.B
open Go Go.Am.N AV Proofs.Tryz IntKind
theorem alI:aU 188 f188:=aS func188
theorem adf:aU 127 f127:=aS func127
theorem ahX:aU 122 f122:=aS func122
theorem akq:aU 189 f189:=aS func189
abbrev pX:List Nat:=[0,1,5,6,7]
abbrev xT (A B c i K:Nat):List AV:=[.mag A,.mag B,.own K 1 0 (nl A),.int .u64 c,.int .i64 i]
abbrev dK (K n:Nat) (o:Nat->Nat):aC:=[(K,⟨true,true,1,n,aB o⟩)]
abbrev JI:Code:=part (aE f188) [1,1,1,0,1,0,0]
theorem U9 {A B:Nat}:aI T fJ [] 60 pX (before (aE f188) [1,1,1,0,1]) ⟨aN 0 [.mag A,.mag B],[],0⟩=
  let a:=(↑(nl A):Int);some (ag.aj [(0:Int)<=a/\a<=a/\a<=2^47/\a*(↑(4:Nat):Int)<=2^47] (ag.leaf au.normal ([mag A,mag B,own 12288 1 0 a.toNat,int .u64 (0:Int),int .i64 (0:Int)],[(12288,aq.mk true true 1 a.toNat fun x=>int .u32 (0:Int))]))):=ah
theorem TQ {A B:Nat}:aI T fJ [16,23,38] 60 pX [JI] ⟨aA pX (xT A B c i 12288),dK 12288 (nl A) o,12289⟩=
  let b:=(↑c:Int);let e:=(↑i:Int);let p:=own 12288 1 0 (nl A);let q:=[int .i64 (i64.wrap (e+1))];let f:=e.toNat;let d:=(0:Int)<=e/\f<nl A;let g:=mag A::mag B::p::int .u64 (0:Int)::q;let r:=mag A::mag B::p::int .u64 (1:Int)::q;let l:=f+0;let n:=u64.wrap (b+u64.wrap (↑(aD B f):Int));let k:=u64.wrap (↑(aD A f):Int);let h:=u64.wrap (k+4294967296);let m:=[d,l<nl A];some (ag.fork (decide (e<(↑(nl A):Int))) (ag.fork (decide (e<(↑(nl B):Int))) (ag.aj [(0:Int)<=e/\f<nl B] (ag.aj [d] (ag.fork (decide (k<n)) (ag.aj m (ag.leaf au.normal (r,[(12288,aq.mk true true 1 (nl A) fun j=>if(j==l)=true then int .u32 (u32.wrap (u64.wrap (h-n)))else aB o j)]))) (ag.aj m (ag.leaf au.normal (g,[(12288,aq.mk true true 1 (nl A) fun j=>if(j==l)=true then int .u32 (u32.wrap (u64.wrap (k-n)))else aB o j)])))))) (ag.aj [d] (ag.fork (decide (k<b)) (ag.aj m (ag.leaf au.normal (r,[(12288,aq.mk true true 1 (nl A) fun j=>if(j==l)=true then int .u32 (u32.wrap (u64.wrap (h-b)))else aB o j)]))) (ag.aj m (ag.leaf au.normal (g,[(12288,aq.mk true true 1 (nl A) fun j=>if(j==l)=true then int .u32 (u32.wrap (u64.wrap (k-b)))else aB o j)])))))) (ag.leaf (au.exit 0) ([mag A,mag B,p,int .u64 b,int .i64 e],[(12288,aq.mk true true 1 (nl A) fun a=>int .u32 (↑(o a):Int))]))):=ah
theorem UE {A B:Nat}:ct T fJ [] 60 f188 (behind (aE f188) [1,1,1,0,1]) ⟨aA pX (xT A B c i 12288),dK 12288 (nl A) o,12289⟩=
  some (ag.aj [eU (nl A) fun i=>aB o (i+0),nl A<2^40] (ag.leaf au.ret [mag (val (nl A) fun i=>numOf (aB o (i+0)))])):=ah
abbrev lR:List Nat:=[0,1,5,6]
abbrev yd (A B i K:Nat):List AV:=[.mag A,.mag B,.own K 1 0 (nl A+nl B),.int .i64 i]
abbrev sn:List Nat:=[0,1,5,6,7,8]
abbrev BZ (A B i c j K:Nat):List AV:=[.mag A,.mag B,.own K 1 0 (nl A+nl B),.int .i64 i,.int .u64 c,.int .i64 j]
abbrev qZ:Code:=part (aE f122) [1,1,0,1,0,0]
abbrev vL:Code:=part qZ [1,0,0]
theorem ajQ {A B:Nat}:aI T fJ [] 60 lR (before (aE f122) [1,1,0,1]) ⟨aN 0 [.mag A,.mag B],[],0⟩=
  let a:=i64.wrap ((↑(nl A):Int)+(↑(nl B):Int));some (ag.aj [(0:Int)<=a/\a<=a/\a<=2^47/\a*(↑(4:Nat):Int)<=2^47] (ag.leaf au.normal ([mag A,mag B,own 24576 1 0 a.toNat,int .i64 (0:Int)],[(24576,aq.mk true true 1 a.toNat fun x=>int .u32 (0:Int))]))):=ah
theorem YQ {A B:Nat}:aI T fJ [18] 60 lR [part qZ [0]] ⟨aA lR (yd A B i 24576),dK 24576 (nl A+nl B) o,24577⟩=
  let b:List AV×aC:=([mag A,mag B,own 24576 1 0 (nl A+nl B),int .i64 (↑i:Int)],[(24576,aq.mk true true 1 (nl A+nl B) fun a=>int .u32 (↑(o a):Int))]);some (ag.fork (decide ((↑i:Int)<(↑(nl A):Int))) (ag.leaf au.normal b) (ag.leaf (au.exit 0) b)):=ah
theorem TO {A B:Nat}:aI T fJ [] 60 sn (before vL [1,0,1]) ⟨aA lR (yd A B i 24576),dK 24576 (nl A+nl B) o,24577⟩=
  some (ag.leaf au.normal ([mag A,mag B,own 24576 1 0 (nl A+nl B),int .i64 (↑i:Int),int .u64 (0:Int),int .i64 (0:Int)],[(24576,aq.mk true true 1 (nl A+nl B) fun a=>int .u32 (↑(o a):Int))])):=ah
theorem ab1 {A B:Nat}:aI T fJ [24] 60 sn [part vL [1,0,1,0,0]] ⟨aA sn (BZ A B i c j 24576),dK 24576 (nl A+nl B) o,24577⟩=
  let d:=(↑i:Int);let b:=(↑j:Int);let e:=nl A+nl B;let k:=own 24576 1 0 e;let f:=i64.wrap (d+b);let g:=f.toNat+0;let l:=[(0:Int)<=f/\f.toNat<e,g<e];let h:=u64.wrap ((↑c:Int)+u64.wrap (u64.wrap (u64.wrap (↑(aD A d.toNat):Int)*u64.wrap (↑(aD B b.toNat):Int))+u64.wrap (↑(o g):Int)));some (ag.fork (decide (b<(↑(nl B):Int))) (ag.aj (((0:Int)<=d/\d.toNat<nl A)::((0:Int)<=b/\b.toNat<nl B)::l) (ag.aj l (ag.aj [(0:Int)<=32] (ag.leaf au.normal ([mag A,mag B,k,int .i64 d,int .u64 (h.fdiv ((2:Int)^min (Int.toNat (32:Int)) u64.bits)),int .i64 (i64.wrap (b+1))],[(24576,aq.mk true true 1 e fun j=>if(j==g)=true then int .u32 (u32.wrap h)else aB o j)]))))) (ag.leaf (au.exit 2) ([mag A,mag B,k,int .i64 d,int .u64 (↑c:Int),int .i64 b],[(24576,aq.mk true true 1 e fun a=>int .u32 (↑(o a):Int))]))):=ah
theorem VN {A B:Nat}:aI T fJ [] 60 lR (behind vL [1,0,1]) ⟨aA sn (BZ A B i c j 24576),dK 24576 (nl A+nl B) o,24577⟩=
  let a:=nl A+nl B;let b:=i64.wrap ((↑i:Int)+(↑(nl B):Int));let d:=b.toNat+0;some (ag.aj [(0:Int)<=b/\b.toNat<a,d<a] (ag.leaf au.normal ([mag A,mag B,own 24576 1 0 a,int .i64 (↑i:Int)],[(24576,aq.mk true true 1 a fun j=>if(j==d)=true then int .u32 (u32.wrap (↑c:Int))else aB o j)]))):=ah
theorem aiC {A B:Nat}:aI T fJ [] 60 lR [part qZ [1,1]] ⟨aA lR (yd A B i 24576),dK 24576 (nl A+nl B) o,24577⟩=
  some (ag.leaf au.normal ([mag A,mag B,own 24576 1 0 (nl A+nl B),int .i64 (i64.wrap ((↑i:Int)+1))],[(24576,aq.mk true true 1 (nl A+nl B) fun a=>int .u32 (↑(o a):Int))])):=ah
theorem Tx {A B:Nat}:ct T fJ [] 60 f122 (behind (aE f122) [1,1,0,1]) ⟨aA lR (yd A B i 24576),dK 24576 (nl A+nl B) o,24577⟩=
  some (ag.aj [eU (nl A+nl B) fun i=>aB o (i+0),nl A+nl B<2^40] (ag.leaf au.ret [mag (val (nl A+nl B) fun i=>numOf (aB o (i+0)))])):=ah
abbrev tq:List Nat:=[0,1,6,7,8]
abbrev Ft (A b r k K:Nat):List AV:=[.mag A,.int .u32 b,.own K 1 0 (nl A),.int .u64 r,.int .i64 ((k:Int)-1)]
abbrev Kj:Code:=part (aE f189) [1,1,1,0,1,0,0]
theorem ahg {A:Nat}:aI T fJ [] 60 tq (before (aE f189) [1,1,1,0,1]) ⟨aN 0 [.mag A,.int .u32 b],[],0⟩=
  let a:=(↑(nl A):Int);some (ag.aj [(0:Int)<=a/\a<=a/\a<=2^47/\a*(↑(4:Nat):Int)<=2^47] (ag.leaf au.normal ([mag A,int .u32 (↑b:Int),own 16384 1 0 a.toNat,int .u64 (0:Int),int .i64 (i64.wrap (a-1))],[(16384,aq.mk true true 1 a.toNat fun x=>int .u32 (0:Int))]))):=ah
theorem UG {A r:Nat}:aI T fJ [16] 60 tq [Kj] ⟨aA tq (Ft A b r k 16384),dK 16384 (nl A) o,16385⟩=
  let l:=int .u32 (↑b:Int);let g:=own 16384 1 0 (nl A);let e:=u64.wrap (↑b:Int);let d:=(↑k:Int)-1;let i:=(0:Int)<=d/\d.toNat<nl A;let h:=d.toNat+0;let f:=u64.wrap (↑(BitVec.ofInt u64.bits (u64.wrap ((↑r:Int)*2^min (Int.toNat (32:Int)) u64.bits))|||BitVec.ofInt u64.bits (u64.wrap (↑(aD A d.toNat):Int))).toNat:Int);some (ag.fork (decide (d>=0)) (ag.aj [(0:Int)<=32,i] (ag.aj [e≠(0:Int),i,h<nl A] (ag.aj [e≠(0:Int)] (ag.leaf au.normal ([mag A,l,g,int .u64 (f.tmod e),int .i64 (i64.wrap (d-1))],[(16384,aq.mk true true 1 (nl A) fun j=>if(j==h)=true then int .u32 (u32.wrap (u64.wrap (f.tdiv e)))else aB o j)]))))) (ag.leaf (au.exit 0) ([mag A,l,g,int .u64 (↑r:Int),int .i64 d],[(16384,aq.mk true true 1 (nl A) fun a=>int .u32 (↑(o a):Int))]))):=ah
theorem abc {A r:Nat}:ct T fJ [] 60 f189 (behind (aE f189) [1,1,1,0,1]) ⟨aA tq (Ft A b r k 16384),dK 16384 (nl A) o,16385⟩=
  some (ag.aj [eU (nl A) fun i=>aB o (i+0),nl A<2^40] (ag.leaf au.ret [mag (val (nl A) fun i=>numOf (aB o (i+0))),int .u32 (u32.wrap (↑r:Int))])):=ah
def QL:aX:=[(126,yP),(188,nQ (fun A B=>.mag (A-B)) fun A B=>[B<=A,nl A<2^40])]
theorem SS {A B:Nat}:bX T QL [9] 60 f127 (aE f127) ⟨aN 0 [.mag A,.mag B],[],0⟩=
  let a:=2^40;some (ag.aj [nl A<a,nl B<a] (ag.fork (decide (dw A B<0)) (ag.leaf au.ret [nil,int .i64 (7:Int)]) (ag.aj [B<=A,nl A<a] (ag.leaf au.ret [mag (A-B),int .i64 (0:Int)])))):=ah
theorem iH {K n nx:Nat} (h:K<nx):iQ nx (dK K n o):=⟨⟨h,fun _ _=>rfl⟩,trivial⟩
theorem agm {vo va vb ai b' un u' B:Nat} (hx:x=c+b') (hu:un+x=ai+4294967296*u') (h:va+c*B=vo+vb):va+ai*B+u'*(4294967296*B)=vo+un*B+(vb+b'*B):=by
 have e:(un+x)*B=(ai+4294967296*u')*B:=by rw[hu]
 subst hx;grind
theorem Mz {A B:Nat} (hAB:B<=A) (hA:nl A<2^40) (K:Nat):aQ P 188 K [.mag A,.mag B] [] (aJ (.mag (A-B)) []):=by
 have hB:nl B<=nl A:=iF hAB;refine fV hT alI rfl aV rfl (fun _ c0 h0=>?_) K [];refine ax.hole [1,1,1,0,1] ah (aG.bE hT fO hm 60 pX U9 ah ?_);simp only[ag.all,ay,bg];refine⟨aa,fun s' hv=>cV ?_⟩;refine ax.iN (i:=0) (y:=JI) ah pX 12289 (h0 _) (fun p:Nat×Nat×(Nat->Nat)=>xT A B p.2.1 p.1 12288) (fun p=>dK 12288 (nl A) p.2.2) (fun _=>rfl) (fun _=>iH aa)
  (fun p=>p.1<=nl A/\p.2.1<=1/\(∀j,j<nl A->p.2.2 j<2^32)/\val p.1 (aD A)+p.2.1*2^(32*p.1)=val p.1 p.2.2+val p.1 (aD B))
  (fun p=>nl A-p.1) (0,0,fun _=>0) hv ⟨by simp,by simp,fun _ _=>by simp,by simp[val]⟩ ?_
 rintro⟨i,c,o⟩ ⟨hi,hc,ho,hval⟩;simp only at hi hc ho hval;refine ax.bE hT fO hm 60 pX TQ ah ?_;have la:=ec (N:=A) (i:=i);have lb:=ec (N:=B) (i:=i);have wa:u64.wrap (aD A i:Int)=((aD A i:Nat):Int):=cC aa aa;have wb:u64.wrap (aD B i:Int)=((aD B i:Nat):Int):=cC aa aa;have w1:u64.wrap ((c:Int)+((aD B i:Nat):Int))=((c+aD B i:Nat):Int):=by rw[cC aa aa];omega
 have w2:u64.wrap (((aD A i:Nat):Int)+4294967296)=((aD A i+4294967296:Nat):Int):=by rw[cC aa aa];omega
 have w3:i64.wrap ((i:Int)+1)=((i+1:Nat):Int):=by rw[wrap_i64 aa aa];omega
 simp only[ag.all,ay,br,bC,bg,Nat.add_zero,beq_iff_eq];rw[wa,wb,w1,w2,w3]
 -- what is put down
 have next:∀{s':aK} {x u':Nat} {v:Int},i<nl A->x=c+aD B i->u'<=1->x<=aD A i+4294967296*u'->aD A i+4294967296*u'<x+4294967296->v=((aD A i+4294967296*u'-x:Nat):Int)->
   bD pX s'=some (xT A B u' (i+1) 12288,[(12288,⟨true,true,1,nl A,fun j=>if j=i then .int .u32 (u32.wrap (u64.wrap v))else aB o j⟩)])->
   ∃k:Nat×Nat×(Nat->Nat),bD pX s'=some (xT A B k.2.1 k.1 12288,dK 12288 (nl A) k.2.2)/\(k.1<=nl A/\k.2.1<=1/\(∀j,j<nl A->k.2.2 j<2^32)/\val k.1 (aD A)+k.2.1*2^(32*k.1)=val k.1 k.2.2+val k.1 (aD B))/\nl A-k.1<nl A-i:=by
  intro s' x u' v hin hx hu1 h1 h2 hv1 hv;refine⟨(i+1,u',cR o i (aD A i+4294967296*u'-x)),er hv rfl ?_,⟨by simp only;omega,hu1,jl aa ho,?_⟩,by simp only;omega⟩
  ·simp only[dK];congr 3;funext k;exact iI (by rw[hv1,cC aa aa,wrap_u32 aa aa]) k
  ·simp only;rw[tW,val,val,iV];exact agm (b':=aD B i) (x:=x) hx aa hval
 refine⟨fun hb=>⟨fun hb2=>⟨aa,aa,fun h3=>⟨⟨aa,aa⟩,fun s' hv=>?_⟩,fun h3=>⟨⟨aa,aa⟩,fun s' hv=>?_⟩⟩,fun hb2=>⟨aa,fun h3=>⟨⟨aa,aa⟩,fun s' hv=>?_⟩,fun h3=>⟨⟨aa,aa⟩,fun s' hv=>?_⟩⟩⟩,fun hb s' hv=>gk (cV ?_)⟩
 ·exact next (u':=1) aa rfl aa aa aa aa hv
 ·exact next (u':=0) aa rfl aa aa aa aa hv
 ·exact next (u':=1) (x:=c) aa (by rw[j9 (A:=B) aa];rfl) aa aa aa aa hv
 ·exact next (u':=0) (x:=c) aa (by rw[j9 (A:=B) aa];rfl) aa aa aa aa hv
 ·have hin:i=nl A:=aa;refine aG.lE hT fO hm 60 hv (h0 _) rfl (iH aa) UE ah ah ?_;simp only[ag.all,ay,Nat.add_zero,kJ];refine⟨⟨hU ho,hA⟩,dY (congrArg AV.mag ?_)⟩;rw[hin,gL,qF (dL.1 hB)]at hval;have hlt:=gB ho;have:c=0:=by
   rcases Nat.eq_zero_or_pos c with h|h
   ·exact h
   ·exfalso;have h1:1*2^(32*nl A)<=c*2^(32*nl A):=Nat.mul_le_mul_right _ h;omega
  rw[this]at hval;omega
theorem Te:bn P QL:=aH CC (aH (qR fun h=>Mz h.1 h.2) bw)
theorem afn {A B:Nat} (hA:nl A<2^40) (hB:nl B<2^40) (K:Nat):aQ P 127 K [.mag A,.mag B] [] (aJ (.tuple [.mag (A-B),.int .i64 (if A<B then 7 else 0)]) []):=by
 refine b9 hT Te hm adf rfl aV rfl 60 SS (fun _=>?_) K [];simp only[ag.all,ay,br,bC,AK];refine⟨⟨hA,hB⟩,fun h=>⟨?_,bP (by rw[if_pos h]),trivial⟩,fun h=>⟨⟨aa,hA⟩,.refl _,bP (by rw[if_neg h]),trivial⟩⟩;rw[Nat.sub_eq_zero_of_le aa];exact lT
def Jv:Spec:=nQ (fun A B=>.tuple [.mag (A-B),.int .i64 (if A<B then 7 else 0)]) Fh
theorem abJ:aW P Jv 127:=qR fun h=>afn h.1 h.2
theorem Wu {A B:Nat} (hA:nl A<2^39) (hB:nl B<2^39) (K:Nat):aQ P 122 K [.mag A,.mag B] [] (aJ (.mag (A*B)) []):=by
 refine fV hT ahX rfl aV rfl (fun _ c0 h0=>?_) K [];refine ax.hole [1,1,0,1] ah (aG.bE hT fO hm 60 lR ajQ ah ?_);have hw:i64.wrap ((nl A:Int)+(nl B:Int))=((nl A+nl B:Nat):Int):=fz aa aa;rw[hw];simp only[ag.all,ay,bg];refine⟨aa,fun s' hv=>cV ?_⟩;refine ax.iN (i:=0) (y:=qZ) ah lR 24577 (h0 _) (fun p:Nat×(Nat->Nat)=>yd A B p.1 24576) (fun p=>dK 24576 (nl A+nl B) p.2) (fun _=>rfl) (fun _=>iH aa)
  (fun p=>p.1<=nl A/\(∀j,j<nl A+nl B->p.2 j<2^32)/\(∀j,p.1+nl B<=j->p.2 j=0)/\val (nl A+nl B) p.2=val p.1 (aD A)*B)
  (fun p=>nl A-p.1) (0,fun _=>0) hv ⟨by simp,fun _ _=>by simp,fun _ _=>rfl,?_⟩ ?_
 ·simp only;rw[val_zero fun _ _=>rfl];simp[val]
 rintro⟨i,o⟩ ⟨hi,ho,ho0,hval⟩;simp only at hi ho ho0 hval;refine ax.hole [0] ah (show ax P c0 f122.ntmps (part qZ [0]) _ _ from ax.bE hT fO hm 60 lR YQ ah ?_);simp only[ag.all,br,bC];refine⟨fun h1 s' hv=>cV ?_,fun h1 s' hv=>tc (gk (cV ?_))⟩
 ·have hin:i<nl A:=aa;have la:=ec (N:=A) (i:=i);show aG P c0 f122.ntmps [part qZ [1]] s' _;refine ax.hole [0] ah ?_;show ax P c0 f122.ntmps (part qZ [1,0]) s' _;refine ax.qH (i:=1) (y:=vL) ah (ax.k8 hv (h0 24577) rfl (iH aa) ?_);refine ax.hole [1,0,1] ah (aG.bE hT fO hm 60 sn TO ah fun s' hv=>cV ?_);refine ax.iN (i:=2) (y:=part vL [1,0,1,0,0]) ah sn 24577 (h0 _) (fun p:Nat×Nat×(Nat->Nat)=>BZ A B i p.2.1 p.1 24576) (fun p=>dK 24576 (nl A+nl B) p.2.2) (fun _=>rfl) (fun _=>iH aa)
   (fun p=>p.1<=nl B/\p.2.1<2^32/\(∀j,j<nl A+nl B->p.2.2 j<2^32)/\(∀j,i+nl B<=j->p.2.2 j=0)/\val (nl A+nl B) p.2.2+p.2.1*2^(32*(i+p.1))=val i (aD A)*B+aD A i*val p.1 (aD B)*2^(32*i))
   (fun p=>nl B-p.1) (0,0,o) hv ⟨by simp,by simp,ho,ho0,by simp[val,hval]⟩ ?_
  rintro⟨j,c,o⟩ ⟨hj,hc,ho,ho0,hval⟩;simp only at hj hc ho ho0 hval;refine ax.bE hT fO hm 60 sn ab1 ah ?_;have hij:i64.wrap ((i:Int)+(j:Int))=((i+j:Nat):Int):=fz aa aa;have lb:=ec (N:=B) (i:=j);simp only[ag.all,ay,br,bC,hij,bg,Nat.add_zero,beq_iff_eq];refine⟨fun h2=>?_,fun h2 s' hv=>gk ?_⟩
  ·have hjm:j<nl B:=aa;obtain⟨m1,m2,m3⟩:=K7 hc la lb (ho (i+j) aa);rw[m1];refine⟨⟨aa,aa,aa,aa⟩,⟨aa,aa⟩,aa,fun s' hv=>⟨(j+1,(c+aD A i*aD B j+o (i+j))/4294967296,cR o (i+j) ((c+aD A i*aD B j+o (i+j))%4294967296)),er hv ?_ ?_,⟨by simp only;omega,m3,jl aa ho,fun k hk=>?_,?_⟩,by simp only;omega⟩⟩
   ·rw[mW,fz (a:=(j:Int)+1) (n:=j+1) aa aa];simp only[BZ,List.cons.injEq,AV.int.injEq,and_true,true_and];omega
   ·simp only[dK];congr 3;funext k;exact iI (by rw[kB]) k
   ·exact(gz aa).trans (ho0 k hk)
   ·simp only;rw[show 32*(i+(j+1))=32*((i+j)+1) by omega,iV,val];have hset:=Ik (o:=o) (x:=(c+aD A i*aD B j+o (i+j))%4294967296) (show i+j<nl A+nl B by omega);exact Jt rfl (Nat.div_add_mod _ _) hset (by rw[<-Nat.pow_add];congr 1;omega) hval
  ·show aG P c0 f122.ntmps (behind vL [1,0,1]) s' _;have hjm:j=nl B:=aa;have hib:i64.wrap ((i:Int)+(nl B:Int))=((i+nl B:Nat):Int):=fz aa aa;refine aG.fW hT fO hm 60 hv (h0 24577) rfl (iH aa) lR VN ah ah ?_;rw[hib];simp only[ag.all,ay,bg,Nat.add_zero,beq_iff_eq];refine⟨⟨aa,aa⟩,fun s' hv=>?_⟩;have hf:(fun k=>if k=i+nl B then AV.int .u32 (u32.wrap (c:Int))else aB o k)=aB (cR o (i+nl B) c):=by
    funext k;exact iI (wrap_u32 aa aa) k
   rw[hf]at hv;show aG P c0 f122.ntmps [part qZ [1,1]] s' _;refine aG.fW hT fO hm 60 hv (h0 24577) rfl (iH aa) lR aiC ah ah fun s' hv=>cV ?_;refine⟨(i+1,cR o (i+nl B) c),er hv ?_ rfl,⟨by simp only;omega,jl hc ho,fun k hk=>(gz (by simp only at hk;omega)).trans (ho0 k (by simp only at hk;omega)),?_⟩,by simp only;omega⟩
   ·rw[fz (a:=(i:Int)+1) (n:=i+1) aa aa]
   ·simp only;rw[hjm,gL]at hval;rw[r6 aa (ho0 _ aa),hval,val,Nat.add_mul,Nat.mul_assoc,Nat.mul_assoc,Nat.mul_comm B]
 ·have hin:i=nl A:=aa;refine aG.lE hT fO hm 60 hv (h0 _) rfl (iH aa) Tx ah ah ?_;simp only[ag.all,ay,Nat.add_zero,kJ];refine⟨⟨hU ho,aa⟩,dY (congrArg AV.mag ?_)⟩;rw[hval,hin,gL]
def EB:Spec:=nQ (fun A B=>.mag (A*B)) fun A B=>[nl A<2^39,nl B<2^39]
theorem M5:aW P EB 122:=qR fun h=>Wu h.1 h.2
theorem Pv {v r A:Nat} (h:v*b+r=A) (hr:r<b):A/b=v/\A%b=r:=by
 subst h;refine⟨?_,?_⟩
 ·rw[Nat.mul_comm,Nat.mul_add_div aa,Nat.div_eq_of_lt hr,Nat.add_zero]
 ·rw[Nat.mul_comm,Nat.mul_add_mod,Nat.mod_eq_of_lt hr]
theorem acP {A:Nat} (hA:nl A<2^40) (hb0:0<b) (hb32:b<2^32) (K:Nat):aQ P 189 K [.mag A,.int .u32 b] [] (aJ (.tuple [.mag (A/b),.int .u32 (A%b:Nat)]) []):=by
 refine fV hT akq rfl aV rfl (fun _ c0 h0=>?_) K [];refine ax.hole [1,1,1,0,1] ah (aG.bE hT fO hm 60 tq ahg ah ?_);simp only[ag.all,ay,bg];refine⟨aa,fun s' hv=>cV ?_⟩;refine ax.iN (i:=0) (y:=Kj) ah tq 16385 (h0 _) (fun p:Nat×Nat×(Nat->Nat)=>Ft A b p.2.1 p.1 16384) (fun p=>dK 16384 (nl A) p.2.2) (fun _=>rfl) (fun _=>iH aa)
  (fun p=>p.1<=nl A/\p.2.1<b/\(∀j,j<nl A->p.2.2 j<2^32)/\(∀j,j<p.1->p.2.2 j=0)/\val (nl A) p.2.2*b+p.2.1*2^(32*p.1)+val p.1 (aD A)=A)
  (fun p=>p.1) (nl A,0,fun _=>0) (er hv (by rw[wrap_i64 aa aa];rfl) rfl) ⟨by simp,hb0,fun j _=>by simp,fun j _=>rfl,?_⟩ ?_
 ·simp only;rw[val_zero fun _ _=>rfl,gL];simp
 rintro⟨k,r,o⟩ ⟨hk,hr,ho,ho0,hval⟩;simp only at hk hr ho ho0 hval;refine ax.bE hT fO hm 60 tq UG ah ?_;simp only[ag.all,ay,br,bC,Nat.add_zero,beq_iff_eq];have hbw:u64.wrap (b:Int)=(b:Int):=cC aa aa;refine⟨fun hb=>?_,fun hb s' hv=>gk (cV ?_)⟩
 ·obtain⟨j,rfl⟩:∃j,k=j+1:=⟨k-1,aa⟩
  have e:(((j+1:Nat):Int)-1).toNat=j:=aa;have hzj:=ec (N:=A) (i:=j);have hor:=v8 (a:=r) (b:=aD A j) aa hzj;rw[e,hor,hbw];have hq1:(r*4294967296+aD A j)/b<2^32:=by
   rw[Nat.div_lt_iff_lt_mul hb0];have:(r+1)*4294967296<=b*4294967296:=Nat.mul_le_mul_right _ hr;omega
  have hdm:=Nat.div_add_mod (r*4294967296+aD A j) b;refine⟨⟨aa,aa,aa⟩,⟨aa,⟨aa,aa⟩,aa⟩,aa,fun s' hv=>⟨(j,(r*4294967296+aD A j)%b,cR o j ((r*4294967296+aD A j)/b)),er hv ?_ ?_,⟨by simp only;omega,Nat.mod_lt _ hb0,jl hq1 ho,fun i hi=>?_,?_⟩,by simp only;omega⟩⟩
  ·rw[<-Int.ofNat_tmod,wrap_i64 aa aa,show((j+1:Nat):Int)-1-1=(j:Int)-1 by omega]
  ·simp only[dK];congr 3;funext i;refine iI ?_ i;rw[<-Int.ofNat_tdiv];clear hdm;generalize (r*4294967296+aD A j)/b=q at hq1 ⊢;rw[cC aa aa,wrap_u32 aa aa]
  ·exact(gz (by simp only at hi;omega)).trans (ho0 i (by simp only at hi;omega))
  ·simp only;rw[r6 aa (ho0 j aa)];rw[iV,val]at hval;exact RQ hval hdm.symm
 ·have hk0:k=0:=aa;have hv2:val (nl A) o*b+r=A:=by rw[hk0]at hval;simpa [val]using hval
  refine aG.lE hT fO hm 60 hv (h0 _) rfl (iH aa) abc ah ah ?_;simp only[ag.all,ay,Nat.add_zero,kJ];obtain⟨hdiv,hmod⟩:=Pv hv2 hr;exact⟨⟨hU ho,hA⟩,dY (congrArg AV.mag hdiv.symm),bP (by rw[hmod,wrap_u32 aa aa]),trivial⟩
def Fy:Spec:=ck fun l=>match l with
 |[a,.int .u32 b]=>match jI a with
  |some A=>some (aJ (.tuple [.mag (A/b.toNat),.int .u32 (A%b.toNat:Nat)]) [nl A<2^40,0<b,b<2^32])
  |none=>none
 |_=>none
theorem Ru:aW P Fy 189:=by
 refine cK fun K args r hk hs _=>?_;split at hs
 ·rename_i a b;split at hs
  ·rename_i A hA;simp only[az]at hs;subst hs;intro need;obtain⟨h1,h2,h3⟩:nl A<2^40/\0<b/\b<2^32:=need;obtain⟨b,rfl⟩:=Int.eq_ofNat_of_zero_le (Int.le_of_lt h2);exact gW (acP h1 aa aa K) hk ⟨mL hA,.refl _,trivial⟩ [] trivial
  ·simp at hs
 ·simp at hs
theorem ai0:aU 229 f229:=aS func229
theorem ah6:aU 230 f230:=aS func230
theorem Y9:aU 231 f231:=aS func231
theorem ahM:aU 232 f232:=aS func232
abbrev ug:List Nat:=[0,1,5,6,7]
abbrev AZ (A n l c i K:Nat):List AV:=[.mag A,.int .i64 n,.own K 1 0 l,.int .u64 c,.int .i64 i]
abbrev N3:Code:=part (aE f229) [1,1,1,0,1,0,0]
def LL:aX:=[(185,vf),(190,xM),(122,EB)]
theorem agR:bn P LL:=aH wK (aH CU (aH M5 bw))
theorem ahN {A n:Nat}:aI T fJ [] 60 ug (before (aE f229) [1,1,1,0,1]) ⟨aN 0 [.mag A,.int .i64 n],[],0⟩=
  let a:=i64.wrap ((↑n:Int).tdiv (32:Int));some (ag.aj [(32:Int)≠(0:Int),(0:Int)<=a/\a<=a/\a<=2^47/\a*(↑(4:Nat):Int)<=2^47] (ag.leaf au.normal ([mag A,int .i64 (↑n:Int),own 12288 1 0 a.toNat,int .u64 (0:Int),int .i64 (0:Int)],[(12288,aq.mk true true 1 a.toNat fun x=>int .u32 (0:Int))]))):=ah
theorem aaO {A n:Nat}:aI T fJ [14] 60 ug [N3] ⟨aA ug (AZ A n l c i 7),dK 7 l o,8⟩=
  let f:=(↑n:Int).tmod (32:Int);let e:=int .i64 (↑n:Int);let b:=(↑i:Int);let d:=u64.wrap (↑(BitVec.ofInt u64.bits (↑c:Int)|||BitVec.ofInt u64.bits (u64.wrap (u64.wrap (↑(aD A b.toNat):Int)*2^min f.toNat u64.bits))).toNat:Int);some (ag.fork (decide (b<(↑(nl A):Int))) (ag.aj [(0:Int)<=b/\b.toNat<nl A,(32:Int)≠(0:Int),(0:Int)<=f] (ag.aj [(1:Nat)*1<=2^24,(l+1)*((4:Nat)+1)*2<=2^47] (ag.aj [(0:Int)<=32] (ag.leaf au.normal ([mag A,e,own 77832 1 0 (l+1),int .u64 (d.fdiv ((2:Int)^min (Int.toNat (32:Int)) u64.bits)),int .i64 (i64.wrap (b+1))],[(77832,aq.mk true true 1 (l+1) fun i=>if i<l then aB o i else nth [int .u32 (u32.wrap d)] (int .u32 (0:Int)) (i-l+0))]))))) (ag.leaf (au.exit 0) ([mag A,e,own 7 1 0 l,int .u64 (↑c:Int),int .i64 b],[(7,aq.mk true true 1 l fun a=>int .u32 (↑(o a):Int))]))):=ah
theorem amI {A n:Nat}:ct T fJ [] 60 f229 (behind (aE f229) [1,1,1,0,1]) ⟨aA ug (AZ A n l c i 7),dK 7 l o,8⟩=
  let d:=int .u32 (0:Int);let a:=l+1;let b:=int .u32 (u32.wrap (↑c:Int));some (ag.aj [(1:Nat)*1<=2^24,a*((4:Nat)+1)*2<=2^47,eU a fun i=>if i+0<l then aB o (i+0)else nth [b] d (i+0-l+0),a<2^40] (ag.leaf au.ret [mag (val a fun i=>numOf (if i+0<l then aB o (i+0)else nth [b] d (i+0-l+0)))])):=ah
theorem ak6 {A n:Nat}:bX T fJ [7] 60 f230 (aE f230) ⟨aN 0 [.mag A,.int .i64 n],[],0⟩=
  let a:=(↑n:Int);some (ag.fork ((↑(nl A):Int)==0) (ag.leaf au.ret [nil]) (ag.aj [(0:Int)<=a/\a<=a/\a<=2^47/\a*(↑(4:Nat):Int)<=2^47,(a.toNat+nl A)*((4:Nat)+1)*2<=2^47] (ag.leaf au.ret [ak 1 (a.toNat+nl A) fun i=>if i+0<a.toNat then int .u32 (0:Int)else int .u32 (↑(aD A (i+0-a.toNat)):Int)]))):=ah
theorem VQ {A:Nat}:bX T LL [] 60 f231 (aE f231) ⟨aN 0 [.mag A,.int .u32 b],[],0⟩=
  let a:=u64.wrap (↑b:Int);some (ag.aj [(0:Int)<=a/\a<2^64,nl A<2^39,nl a.toNat<2^39] (ag.leaf au.ret [mag (A*a.toNat)])):=ah
abbrev oD:List Nat:=[0,1,5,6]
abbrev x8 (a:Nat->Nat) (l n i K:Nat):List AV:=[.ak 1 l (aB a),.int .i64 n,.own K 1 0 l,.int .i64 i]
abbrev KB:Code:=part (aE f232) [1,1,1,1,0,1,0,0]
theorem akW {A n:Nat}:aI T fJ [12] 60 (oD++[4]) (before (aE f232) [1,1,1,1,0,1]) ⟨aN 0 [.mag A,.int .i64 n],[],0⟩=
  let f:=int .i64 (↑n:Int);let a:=(↑(nl A):Int);let d:=i64.wrap ((↑n:Int).tdiv (32:Int));let e:=a.toNat-d.toNat;let b:=(↑e:Int);some (ag.aj [(32:Int)≠(0:Int)] (ag.fork (decide (d>=a)) (ag.leaf au.ret ([mag A,f,tuple [],tuple [],nil],[])) (ag.aj [(32:Int)≠(0:Int),(0:Int)<=d/\d<=a/\a<=a/\a<=a] (ag.aj [(0:Int)<=b/\b<=b/\b<=2^47/\b*(↑(4:Nat):Int)<=2^47] (ag.leaf au.normal ([ak 1 e fun i=>int .u32 (↑(aD A (i+d.toNat)):Int),f,own 53248 1 0 b.toNat,int .i64 (0:Int),nil],[(53248,aq.mk true true 1 b.toNat fun x=>int .u32 (0:Int))])))))):=ah
theorem YG {n:Nat} {a:Nat->Nat}:aI T fJ [23,35] 60 oD [KB] ⟨aA oD (x8 a l n i 7),dK 7 l o,8⟩=
  let h:=(↑l:Int);let g:=(↑n:Int).tmod (32:Int);let f:=int .i64 (↑n:Int);let t:=own 7 1 0 l;let b:=(↑i:Int);let s:=ak 1 l fun a_1=>int .u32 (↑(a a_1):Int);let r:=(2:Int)^min g.toNat u64.bits;let k:=b.toNat;let d:=i64.wrap (b+1);let e:=u64.wrap (↑(a k):Int);let m:=k+0;let p:=[s,f,t,int .i64 d];let q:=[(32:Int)≠(0:Int),(0:Int)<=g,(0:Int)<=b/\k<l,m<l];some (ag.fork (decide (b<h)) (ag.aj [(0:Int)<=b/\k<l] (ag.fork (decide (d<h)) (ag.aj [(0:Int)<=d/\d.toNat<l,(0:Int)<=32] (ag.aj q (ag.leaf au.normal (p,[(7,aq.mk true true 1 l fun j=>if(j==m)=true then int .u32 (u32.wrap ((u64.wrap (↑(BitVec.ofInt u64.bits e|||BitVec.ofInt u64.bits (u64.wrap (u64.wrap (↑(a d.toNat):Int)*2^min (Int.toNat (32:Int)) u64.bits))).toNat:Int)).fdiv r))else aB o j)])))) (ag.aj q (ag.leaf au.normal (p,[(7,aq.mk true true 1 l fun j=>if(j==m)=true then int .u32 (u32.wrap (e.fdiv r))else aB o j)]))))) (ag.leaf (au.exit 0) ([s,f,t,int .i64 b],[(7,aq.mk true true 1 l fun a=>int .u32 (↑(o a):Int))]))):=ah
theorem T7 {n:Nat} {a:Nat->Nat}:ct T fJ [] 60 f232 (behind (aE f232) [1,1,1,1,0,1]) ⟨aA oD (x8 a l n i 7),dK 7 l o,8⟩=
  some (ag.aj [eU l fun i=>aB o (i+0),l<2^40] (ag.leaf au.ret [mag (val l fun i=>numOf (aB o (i+0)))])):=ah
theorem BG {c:Ctx} (h0:∀nx k x,c.k0 k=some x->k<nx):c.k0=bB:=by
 funext k;cases hk:c.k0 k with
 |none=>rfl
 |some x=>have:=h0 0 k x hk;omega
theorem JG {v:Int} (hv:v=(x:Nat)) (hj:j<l+1):(if j<l then aB o j else nth [.int .u32 v] (.int .u32 0) (j-l))=aB (cR o l x) j:=by
 by_cases h:j<l
 ·rw[if_pos h];unfold aB;rw[gz aa]
 ·have:j=l:=aa;subst this;rw[if_neg h,hv];simp[nth,aB,lp]
theorem aiy {A n:Nat} (hA:nl A<2^39) (hn:n<2^43) (K:Nat):aQ P 229 K [.mag A,.int .i64 n] [] (aJ (.mag (A*2^n)) []):=by
 refine fV hT ai0 rfl aV rfl (fun _ c0 h0=>?_) K [];have hk0:=BG h0;refine ax.hole [1,1,1,0,1] ah (aG.bE hT fO hm 60 ug ahN ah ?_);have hw:i64.wrap ((n:Int).tdiv 32)=((n/32:Nat):Int):=by
  rw[show(n:Int).tdiv 32=((n/32:Nat):Int)from(Int.ofNat_tdiv n 32).symm];exact fz rfl aa
 have hmd:(n:Int).tmod 32=((n%32:Nat):Int):=(Int.ofNat_tmod n 32).symm;rw[hw];obtain⟨k,hk⟩:∃k,k=n/32:=⟨_,rfl⟩
 obtain⟨s,hs⟩:∃s,s=n%32:=⟨_,rfl⟩
 rw[<-hs]at hmd;rw[<-hk];simp only[ag.all,ay,bg];refine⟨aa,fun s' hv=>cV ?_⟩;refine ax.jr (i:=0) (y:=N3) ah (fun p:Nat×Nat×(Nat->Nat)=>⟨aA ug (AZ A n (k+p.1) p.2.1 p.1 7),dK 7 (k+p.1) p.2.2,8⟩)
  (fun p=>p.1<=nl A/\p.2.1<2^s/\(∀j,j<k+p.1->p.2.2 j<2^32)/\val (k+p.1) p.2.2+p.2.1*2^(32*(k+p.1))=val p.1 (aD A)*2^(32*k)*2^s)
  (fun p=>nl A-p.1) (0,0,fun _=>0)
  (dP [(7,12288)] hv hk0 rfl ⟨aM,aM,⟨rfl,cN rfl rfl rfl⟩,aM,aM,trivial⟩ ⟨⟨_,_,rfl,rfl,gn rfl fun j _=>rfl⟩,trivial⟩)
  ⟨by simp,Nat.two_pow_pos s,fun _ _=>by simp,?_⟩ ?_
 ·simp only;rw[val_zero fun _ _=>rfl];simp[val]
 rintro⟨i,c,o⟩ ⟨hi,hc,ho,hval⟩;simp only at hi hc ho hval;have hs32:s<32:=aa;have h31:2^s<=2^31:=Nat.pow_le_pow_right aa aa;have hzi:=ec (N:=A) (i:=i);refine ax.bE hT fO hm 60 ug aaO ah ?_;rw[hmd];have hor:=PO hs32 hzi hc;obtain⟨b1,b2⟩:=PY hs32 hzi hc;simp only[ag.all,ay,br,bC,bg,Nat.add_zero]at hor ⊢;rw[hor];refine⟨fun hb=>⟨⟨aa,aa,aa⟩,⟨aa,aa⟩,aa,fun s' hv=>⟨(i+1,(c+aD A i*2^s)/4294967296,cR o (k+i) ((c+aD A i*2^s)%4294967296)),?_,⟨by simp only;omega,b2,fun j hj=>?_,?_⟩,by simp only;omega⟩⟩,fun hb s' hv=>gk ?_⟩
 ·refine dP (vs:=AZ A n (k+(i+1)) ((c+aD A i*2^s)/4294967296) (i+1) 7) (ps:=dK 7 (k+(i+1)) (cR o (k+i) ((c+aD A i*2^s)%4294967296))) [(7,77832)] hv hk0 rfl ⟨aM,aM,⟨rfl,cN rfl rfl rfl⟩,⟨rfl,gV ?_⟩,⟨rfl,gV ?_⟩,trivial⟩
   ⟨⟨_,_,rfl,rfl,gn rfl fun j hj=>JG (by rw[kB]) aa⟩,trivial⟩
  ·rw[mW];omega
  ·rw[wrap_i64 aa aa];omega
 ·simp only at hj ⊢;unfold cR;split
  ·omega
  ·exact ho j aa
 ·simp only;have:=Mt (x:=aD A i) hval;rw[show k+(i+1)=(k+i)+1 by omega,tW,iV,this,val];congr 1;rw[Nat.add_mul,Nat.mul_assoc,<-Nat.pow_add,show 32*i+32*k=32*(k+i) by omega]
 ·have hin:i=nl A:=aa;show aG P c0 f229.ntmps (behind (aE f229) [1,1,1,0,1]) s' _;refine aG.lE hT fO hm 60 hv (h0 _) rfl (iH aa) amI ah ah ?_;simp only[ag.all,ay,Nat.add_zero];have ho':∀j,j<k+i+1->cR o (k+i) c j<2^32:=fun j hj=>by
   unfold cR;split
   ·omega
   ·exact ho j aa
  have e:∀j,j<k+i+1->(if j<k+i then aB o j else nth [.int .u32 (u32.wrap (c:Int))] (.int .u32 0) (j-(k+i)))=aB (cR o (k+i) c) j:=fun j hj=>JG (wrap_u32 aa aa) hj;refine⟨⟨aa,aa,fun j hj=>?_,aa⟩,dY (congrArg AV.mag ?_)⟩
  ·exact⟨_,ho' j hj,e j hj⟩
  ·rw[val_congr (y:=cR o (k+i) c) fun j hj=>(congrArg numOf (e j hj)).trans E5,tW,hval,hin,gL,Nat.mul_assoc,<-Nat.pow_add];congr 2;omega
def IY:Spec:=ck fun l=>match l with
 |[a,.int .i64 n]=>match jI a with
  |some A=>some (aJ (.mag (A*2^n.toNat)) [nl A<2^39,0<=n,n<2^43])
  |none=>none
 |_=>none
theorem Ge {f:FuncId} {g:Nat->Int->AV} {l:Nat->List Prop} {m:Int} (h:∀{A n:Nat},ay (l A)->(n:Int)<m->∀K,aQ P f K [.mag A,.int .i64 n] [] (aJ (g A n) [])):∀K args pre r,ck (fun a=>match a with
 |[a,.int .i64 n]=>match jI a with
  |some A=>some (aJ (g A n) (l A++[0<=n,n<m]))
  |none=>none
 |_=>none) K args pre=some r->aQ P f K args pre r:=by
 refine cK fun K args r hk hs _=>?_;split at hs
 ·split at hs
  ·rename_i A hA;simp only[az]at hs;subst hs;intro need;obtain⟨h1,h2,h3⟩:=dS.1 need;rename_i n _;obtain⟨n,rfl⟩:=Int.eq_ofNat_of_zero_le h2;exact gW (h h1 h3 K) hk ⟨mL hA,.refl _,trivial⟩ [] trivial
  ·simp at hs
 ·simp at hs
theorem ae7:aW P IY 229:=
 Ge (g:=fun A n=>.mag (A*2^n.toNat)) (l:=fun A=>[nl A<2^39]) (m:=2^43) fun {A n} h hn K=>by
  have:=aiy (A:=A) (n:=n) h aa K;simpa using this
theorem ak0 {A n:Nat} (hA:nl A<2^40) (hn:n<2^40) (K:Nat):aQ P 230 K [.mag A,.int .i64 n] [] (aJ (.mag (A*2^(32*n))) []):=by
 refine b9 hT fO hm ah6 rfl aV rfl 60 ak6 (fun _=>?_) K [];simp only[ag.all,ay,beq_iff_eq,beq_eq_false_iff_ne,ne_eq,bg,Nat.add_zero];refine⟨fun hb=>?_,fun hb=>⟨⟨aa,aa⟩,?_⟩⟩
 ·have:A=0:=jX.1 aa;subst this;rw[Nat.zero_mul];exact lT
 ·have hA0:A≠0:=fun h=>hb (by rw[h];rfl);have hlt:A*2^(32*n)<2^(32*(n+nl A)):=by
   rw[show 32*(n+nl A)=32*nl A+32*n by omega,Nat.pow_add];exact(Nat.mul_lt_mul_right (Nat.two_pow_pos _)).2 nR
  have hval:A*2^(32*n)=val (n+nl A) (fun i=>if i<n then 0 else aD A (i-n)):=by
   rw[val_add,val_zero fun i hi=>if_pos hi,Nat.zero_add];congr 1;have:=gL (N:=A)
   conv=>lhs;rw[<-this]
   exact val_congr fun i hi=>by rw[if_neg aa];congr 1;omega
  have hz:∀i,i<n+nl A->(if i<n then 0 else aD A (i-n))<2^32:=fun i _=>by
   split
   ·omega
   ·exact ec
  refine mu ?_ fun i hi=>?_
  ·rw[hval];refine Dg hz (.inr ?_);have hp:=g8.2 hA0;rw[if_neg aa,show n+nl A-1-n=nl A-1 by omega];exact yL hA0
  ·rw[hval,qw hz hi];split<;>rfl
def Jl:Spec:=ck fun l=>match l with
 |[a,.int .i64 n]=>match jI a with
  |some A=>some (aJ (.mag (A*2^(32*n.toNat))) [nl A<2^40,0<=n,n<2^40])
  |none=>none
 |_=>none
theorem Xw:aW P Jl 230:=
 Ge (g:=fun A n=>.mag (A*2^(32*n.toNat))) (l:=fun A=>[nl A<2^40]) (m:=2^40) fun {A n} h hn K=>by
  have:=ak0 (A:=A) (n:=n) h aa K;simpa using this
theorem adw {A:Nat} (hA:nl A<2^39) (hb:b<2^32) (K:Nat):aQ P 231 K [.mag A,.int .u32 b] [] (aJ (.mag (A*b)) []):=by
 refine b9 hT agR hm Y9 rfl aV rfl 60 VQ (fun _=>?_) K [];have e:u64.wrap (b:Int)=(b:Int):=cC aa aa;rw[e];simp only[ag.all,ay,bg];have:nl b<=1:=dL.2 aa;exact⟨⟨aa,hA,aa⟩,.refl _⟩
def Pt:Spec:=ck fun l=>match l with
 |[a,.int .u32 b]=>match jI a with
  |some A=>some (aJ (.mag (A*b.toNat)) [nl A<2^39,0<=b,b<2^32])
  |none=>none
 |_=>none
theorem akg:aW P Pt 231:=by
 refine cK fun K args r hk hs _=>?_;split at hs
 ·rename_i a b;split at hs
  ·rename_i A hA;simp only[az]at hs;subst hs;intro need;obtain⟨h1,h2,h3⟩:nl A<2^39/\0<=b/\b<2^32:=need;obtain⟨b,rfl⟩:=Int.eq_ofNat_of_zero_le h2;exact gW (adw h1 aa K) hk ⟨mL hA,.refl _,trivial⟩ [] trivial
  ·simp at hs
 ·simp at hs
theorem abk {A:Nat}:aD A (i+k)=aD (A/2^(32*k)) i:=by
 unfold aD;rw[Nat.div_div_eq_div_mul,<-Nat.pow_add];congr 3;omega
theorem aly {s:Nat} (ha:a<2^32) (hb:b<2^32) (hs:s<32):(b*4294967296+a)/2^s%4294967296=a/2^s+b%2^s*2^(32-s):=by
 have:=wT (R:=b*4294967296+a) (k:=0) hs;have l0:aD (b*4294967296+a) 0=a:=by unfold aD;simp;omega
 have l1:aD (b*4294967296+a) (0+1)=b:=by unfold aD;simp;omega
 rw[l0,l1]at this;rw[<-this];unfold aD;simp
theorem UQ {A n:Nat} (hA:nl A<2^40) (hn:n<2^62) (K:Nat):aQ P 232 K [.mag A,.int .i64 n] [] (aJ (.mag (A/2^n)) []):=by
 refine fV hT ahM rfl aV rfl (fun _ c0 h0=>?_) K [];have hk0:=BG h0;refine ax.hole [1,1,1,1,0,1] ah (aG.bE hT fO hm 60 (oD++[4]) akW ah ?_);have hw:i64.wrap ((n:Int).tdiv 32)=((n/32:Nat):Int):=by
  rw[show(n:Int).tdiv 32=((n/32:Nat):Int)from(Int.ofNat_tdiv n 32).symm];exact fz rfl aa
 have hmd:(n:Int).tmod 32=((n%32:Nat):Int):=(Int.ofNat_tmod n 32).symm;rw[hw];obtain⟨k,hk⟩:∃k,k=n/32:=⟨_,rfl⟩
 obtain⟨s,hs⟩:∃s,s=n%32:=⟨_,rfl⟩
 rw[<-hs]at hmd;rw[<-hk];have hnk:2^n=2^(32*k)*2^s:=by rw[<-Nat.pow_add];congr 1;omega
 simp only[ag.all,ay,br,bC,bg];refine⟨aa,fun hb s' hv=>gd (.inl ?_),fun hb=>⟨⟨aa,aa⟩,aa,fun s' hv=>cV ?_⟩⟩
 ·refine iw (us:=[.nil]) (.inr rfl) hv ah ?_;have:A/2^n=0:=by
   rw[hnk,<-Nat.div_div_eq_div_mul,Nat.div_eq_of_lt (dL.1 (show nl A<=k by omega)),Nat.zero_div]
  rw[this];exact lT
 have hkA:k<nl A:=aa;have hv:=jF (ls:=oD) (l:=[4]) (vs:=[.ak 1 (nl A-k) fun i=>.int .u32 (aD A (i+k):Nat),.int .i64 n,.own 53248 1 0 (nl A-k),.int .i64 0]) hv rfl rfl;obtain⟨R,hR⟩:∃R,R=A/2^(32*k):=⟨_,rfl⟩
 obtain⟨l,hl⟩:∃l,l=nl A-k:=⟨_,rfl⟩
 have hRl:R<2^(32*l):=by
  rw[hR,Nat.div_lt_iff_lt_mul (Nat.two_pow_pos _),<-Nat.pow_add,<-Nat.mul_add];exact dL.1 (show nl A<=l+k by omega)
 have hfun:(fun i=>AV.int .u32 (aD A (i+k):Nat))=aB (aD R):=by
  funext i;unfold aB;rw[abk,hR]
 rw[hfun,<-hl]at hv;refine ax.jr (i:=0) (y:=KB) ah (fun p:Nat×(Nat->Nat)=>⟨aA oD (x8 (aD R) l n p.1 7),dK 7 l p.2,8⟩)
  (fun p=>p.1<=l/\∀j,j<p.1->p.2 j=aD (R/2^s) j)
  (fun p=>l-p.1) (0,fun _=>0)
  (dP [(7,53248)] hv hk0 rfl ⟨aM,aM,⟨rfl,cN rfl rfl rfl⟩,aM,trivial⟩ ⟨⟨_,_,rfl,rfl,gn rfl fun j _=>rfl⟩,trivial⟩)
  ⟨by simp,fun j hj=>by simp only at hj;omega⟩ ?_
 rintro⟨i,o⟩ ⟨hi,ho⟩;simp only at hi ho;have hs32:s<32:=aa;have ha:=ec (N:=R) (i:=i);have hb':=ec (N:=R) (i:=i+1);refine ax.bE hT fO hm 60 oD YG ah ?_;have w1:i64.wrap ((i:Int)+1)=if i<l then((i+1:Nat):Int)else i64.wrap ((i:Int)+1):=by
  split
  ·exact fz aa aa
  ·rfl
 simp only[ag.all,ay,br,bC,bg,Nat.add_zero,beq_iff_eq];have next:∀{s':aK} {v:Int},i<l->v=((aD (R/2^s) i:Nat):Int)->bD oD s'=some (x8 (aD R) l n (i+1) 7,[(7,⟨true,true,1,l,fun j=>if j=i then .int .u32 v else aB o j⟩)])->
   ∃p:Nat×(Nat->Nat),(∃ρ,Le c0 ρ s' ⟨aA oD (x8 (aD R) l n p.1 7),dK 7 l p.2,8⟩)/\(p.1<=l/\∀j,j<p.1->p.2 j=aD (R/2^s) j)/\l-p.1<l-i:=by
  intro s' v hil hv1 hv;refine⟨(i+1,cR o i (aD (R/2^s) i)),oP (er hv rfl ?_) (h0 _) rfl (iH aa),⟨by simp only;omega,fun j hj=>?_⟩,by simp only;omega⟩
  ·simp only[dK];congr 3;funext j;exact iI hv1 j
  ·simp only at hj ⊢;unfold cR;split
   ·rename_i h;rw[h]
   ·exact ho j aa
 refine⟨fun hb=>?_,fun hb s' hv=>gk ?_⟩
 ·have hil:i<l:=aa;rw[if_pos hil]at w1;rw[w1,hmd];have hf:∀x:Nat,(x:Int).fdiv (2^min ((s:Int).toNat) u64.bits)=((x/2^s:Nat):Int):=fun x=>by
   have:min ((s:Int).toNat) u64.bits=s:=by
    have:u64.bits=64:=rfl;omega
   rw[this,Int.fdiv_eq_ediv_of_nonneg _ (by exact Int.le_of_lt (Int.pow_pos (by decide)))];simp
  have wa:u64.wrap (aD R i:Int)=((aD R i:Nat):Int):=cC aa aa;have hor:u64.wrap ((BitVec.ofInt u64.bits (u64.wrap (aD R i:Int))|||BitVec.ofInt u64.bits (u64.wrap (u64.wrap (aD R (i+1):Int)*2^min (Int.toNat 32) u64.bits))).toNat:Int)=((aD R (i+1)*4294967296+aD R i:Nat):Int):=by
   rw[BitVec.or_comm,cC (x:=(aD R (i+1):Int)) aa aa];exact v8 hb' ha
  simp only[bg];refine⟨aa,fun h1=>⟨⟨aa,aa⟩,⟨aa,aa,aa,aa⟩,fun s' hv=>next hil ?_ hv⟩,fun h1=>⟨⟨aa,aa,aa,aa⟩,fun s' hv=>next hil ?_ hv⟩⟩
  ·rw[hor];have:=hf (aD R (i+1)*4294967296+aD R i);simp only[bg]at this;rw[this,kB,aly ha hb' hs32,wT hs32]
  ·rw[wa];have:=hf (aD R i);simp only[bg]at this;have hd:=Nat.div_le_self (aD R i) (2^s);rw[this,kB,wT hs32,j9 (A:=R) (i:=i+1) (dL.2 (Nat.lt_of_lt_of_le hRl (Nat.pow_le_pow_right aa aa))),Nat.zero_mod,Nat.zero_mul,Nat.add_zero,Nat.mod_eq_of_lt aa]
 ·have hil:i=l:=aa;show aG P c0 f232.ntmps (behind (aE f232) [1,1,1,1,0,1]) s' _;refine aG.lE hT fO hm 60 hv (h0 _) rfl (iH aa) T7 ah ah ?_;simp only[ag.all,ay,Nat.add_zero,kJ];refine⟨⟨hU fun j hj=>?_,aa⟩,dY (congrArg AV.mag ?_)⟩
  ·rw[ho j aa];exact ec
  ·rw[val_congr (y:=aD (R/2^s)) fun j hj=>ho j aa,qF (Nat.lt_of_le_of_lt (Nat.div_le_self _ _) hRl),hR,hnk,Nat.div_div_eq_div_mul]
def Nt:Spec:=ck fun l=>match l with
 |[a,.int .i64 n]=>match jI a with
  |some A=>some (aJ (.mag (A/2^n.toNat)) [nl A<2^40,0<=n,n<2^62])
  |none=>none
 |_=>none
theorem ZD:aW P Nt 232:=
 Ge (g:=fun A n=>.mag (A/2^n.toNat)) (l:=fun A=>[nl A<2^40]) (m:=2^62) fun {A n} h hn K=>by
  have:=UQ (A:=A) (n:=n) h aa K;simpa using this
end Go.Am.B
