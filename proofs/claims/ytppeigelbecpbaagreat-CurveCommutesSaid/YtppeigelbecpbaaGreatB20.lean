/- rational.add, Add, Sub, Mul, Quo. -/
import Derived.Test.YtppeigelbecpbaaGreatB19
set_option linter.unusedVariables false
namespace Go.Am.B
open Go Go.Am.N AV
theorem QY {b:Bool} {N D k:Nat} (hk:k≠0):sQ b (N*k) (D*k)=sQ b N D:=by
 unfold sQ
 have:fA b (N*k)=fA b N*(k:Int):=by unfold fA;split<;>simp[Int.neg_mul]
 rw[this,Rat.mkRat_mul_right hk]
theorem E7 {a c:Int} {d:Nat} (hd:d≠0):mkRat a d+mkRat c d=mkRat (a+c) d:=by
 rw[Rat.mkRat_add_mkRat _ _ hd hd,←Int.add_mul,Rat.mkRat_mul_right hd]
theorem Ee {s:Bool} {X Y D:Nat} (hD:D≠0):sQ s X D+sQ s Y D=sQ s (X+Y) D:=by
 unfold sQ
 rw[E7 hD]
 congr 1
 unfold fA;split<;>simp<;>omega
theorem Ff {b s:Bool} {X Y D:Nat} (hD:D≠0) (hb:b≠s) (h:Y≤X):sQ b X D+sQ s Y D=sQ b (X-Y) D:=by
 unfold sQ
 rw[E7 hD]
 congr 1
 unfold fA
 cases b<;>cases s<;>simp at hb ⊢<;>omega
theorem GF {b s:Bool} {X Y D:Nat} (hD:D≠0) (hb:b≠s) (h:X≤Y):sQ b X D+sQ s Y D=sQ s (Y-X) D:=by
 unfold sQ
 rw[E7 hD]
 congr 1
 unfold fA
 cases b<;>cases s<;>simp at hb ⊢<;>omega
theorem UQ {b s : Bool} {X Y : Nat} : fA b X * fA s Y = fA (b != s) (X * Y) := by
 unfold fA
 cases b<;>cases s<;>simp[Int.neg_mul,Int.mul_neg]
theorem FH {b s : Bool} {X Y D E : Nat} : sQ b X D * sQ s Y E = sQ (b != s) (X * Y) (D * E) := by
 unfold sQ
 rw[Rat.mkRat_mul_mkRat,UQ]
theorem pQ {q:Rat} (h:dN q=true):q.num.natAbs<4294967296∧q.den<4294967296:=by
 unfold dN at h
 simpa using h
theorem nF {a b:Nat} (ha:a<4294967296) (hb:b<4294967296):IntKind.u64.wrap ((a:Int)*(b:Int))=((a*b:Nat):Int)∧a*b≤18446744065119617025:=by
 have h:=Nat.mul_le_mul (show a≤4294967295 by omega) (show b≤4294967295 by omega)
 refine⟨?_,h⟩
 rw[show(a:Int)*(b:Int)=((a*b:Nat):Int) by simp,bN (by omega) (by omega)]
section add
variable {q r:Rat} {n m:Nat} {s:Bool}
theorem Yr {f:Nat→AV} (hf:∀i,i<1→keys (f i)=[]) {b:Bool} {N D:Nat}:gn 8193 (ni b N D r m f):=⟨⟨by omega,hf⟩,⟨by omega,fun _ _=>rfl⟩,⟨by omega,fun _ _=>rfl⟩,trivial⟩
theorem Cj:gn 8193 (mZ q r n m):=⟨⟨by omega,fun _ _=>rfl⟩,⟨by omega,fun _ _=>rfl⟩,⟨by omega,fun _ _=>rfl⟩,trivial⟩
theorem G4 (q r:Rat) (s:Bool):q+sQ s r.num.natAbs r.den=sQ (decide (q<0)) (q.num.natAbs*r.den) (q.den*r.den)+sQ s (r.num.natAbs*q.den) (q.den*r.den):=by
 rw[QY r.den_nz,ko,Nat.mul_comm q.den,QY q.den_nz]
theorem JO {c:Ctx} (h0:∀nx k x,c.k0 k=some x→k<nx) (hq:Sz q n) (hr:Sz r m) (hn:n<2^42) (hm':m<2^42) {s':aF} (hv:aX ec s'=some (gN s,mZ q r n m)):
  aq P c eO.ntmps mW s' (dO c (Fin T eO (.rat (q+sQ s r.num.natAbs r.den) (n+m+1)))):=by
 obtain⟨a1,a2,a3⟩:=Sz.iK hq (by omega)
 obtain⟨b1,b2,b3⟩:=Sz.iK hr (by omega)
 have d1:=q.den_nz
 have d2:=r.den_nz
 have hz:Sz (q+sQ s r.num.natAbs r.den) (n+m+1):=hq.add (FN d2 hr.1 hr.2)
 have bx:∀{a b:Nat},a<2^n→b<2^m→nl (a*b)<2^40:=fun ha hb=>iZ (n:=n+m) (by rw[Nat.pow_add];exact Nat.mul_lt_mul'' ha hb) (by omega)
 have last:∀{s':aF} {X Y D k:Nat},k<2^43→X<2^k→Y<2^k→nl D<2^40→D≠0→q+sQ s r.num.natAbs r.den=sQ (decide (q<0)) X D+sQ s Y D→aX (ec++[15,16,17]) s'=some (gN s++[.mag X,.mag Y,.mag D],mZ q r n m)→
   aD P c eO.ntmps [part mW [1,1]] s' (dO c (Fin T eO (.rat (q+sQ s r.num.natAbs r.den) (n+m+1)))):=by
  intro s' X Y D k hk hX2 hY2 hD hD0 heq hv
  have hX:=iZ hX2 (by omega)
  have hY:=iZ hY2 (by omega)
  have hXY:nl (X+Y)<2^40:=iZ (n:=k+1) (by rw[Nat.pow_succ];omega) (by omega)
  refine aD.jz hT lC hm 60 hv (h0 _) rfl Cj ak6 (by kernel_rfl) rfl ?_
  simp only[aa.all,ax,beq_iff_eq,beq_eq_false_iff_ne,ne_eq]
  refine⟨by omega,fun hb=>⟨⟨hX,hY,hXY,hD,by omega⟩,by omega,fS ?_ hz⟩,fun hb=>⟨⟨hX,hY⟩,fun hc=>⟨⟨by omega,Nat.lt_of_le_of_lt (gB (Nat.sub_le _ _)) hX,hD,by omega⟩,by omega,fS ?_ hz⟩,fun hc=>⟨⟨hY,hX⟩,⟨Nat.lt_of_le_of_lt (gB (Nat.sub_le _ _)) hY,hD,by omega⟩,by omega,fS ?_ hz⟩⟩⟩
  ·rw[heq,hb,Ee hD0]
  ·rw[heq,Ff hD0 hb (by split at hc<;>omega)]
  ·rw[heq,GF hD0 hb (by split at hc<;>omega)]
 have mulb:∀{a b:Nat},a<2^n→b<2^m→a*b<2^(n+m):=fun ha hb=>by rw[Nat.pow_add];exact Nat.mul_lt_mul'' ha hb
 refine aq.hole [1,1] (by kernel_rfl) (aD.eH hT lC hm 60 hv (h0 _) rfl Cj (ec++[15,16,17]) aaA (by kernel_rfl) rfl ?_)
 simp only[aa.all,ax,Bool.not_eq_true',decide_eq_false_iff_not,Bool.not_eq_false',decide_eq_true_eq]
 have fin:∀{s':aF} {R:AV},aD P c eO.ntmps [part mW [1,1]] s' (dO c (Fin T eO R))→aq P c eO.ntmps (part mW [1,1]) s' (dz (fun s''=>aD P c eO.ntmps (behind mW [1,1]) s'' (dO c (Fin T eO R))) (dO c (Fin T eO R))):=
  fun h=>aq.mono h fun e s' h=>by cases e<;>exact h
 refine⟨⟨by omega,by omega,by omega⟩,⟨by omega,by omega,a3,b3⟩,fun hb=>⟨⟨by omega,a1,b2,by omega,b1,a2,by omega,a2,b2⟩,fun s' hv=>bY (fin (last (k:=n+m) (by omega) (mulb hq.1 hr.2) ?_ (bx hq.2 hr.2) (Nat.mul_ne_zero d1 d2) (G4 q r s) hv))⟩,fun hb s' hv=>bY (fin (last (k:=n+m) (by omega) (Nat.lt_of_lt_of_le hq.1 (Nat.pow_le_pow_right (by omega) (by omega))) (Nat.lt_of_lt_of_le hr.1 (Nat.pow_le_pow_right (by omega) (by omega))) a2 d1 ?_ hv))⟩
 ·rw[Nat.mul_comm];exact mulb hq.2 hr.1
 ·have:q.den=r.den:=by split at hb<;>split at hb<;>omega
  rw[←this,ko]
theorem ajQ {c:Ctx} (h0:∀nx k x,c.k0 k=some x→k<nx) (hq:Sz q n) (hr:Sz r m) (hn:n<2^42) (hm':m<2^42) (h1:dN q=true) (h2:dN r=true) {s':aF} {Q:aj→aF→Prop}
  (hv:aX (ec++[7,8,10,11]) s'=some (gN s++[.int .u64 (q.num.natAbs:Nat),.int .u64 (q.den:Nat),.int .u64 (r.num.natAbs:Nat),.int .u64 (r.den:Nat)],mZ q r n m))
  (hN:∀s',aq P c eO.ntmps mW s' (dO c (Fin T eO (.rat (q+sQ s r.num.natAbs r.den) (n+m+1))))→Q .normal s')
  (hR:∀s',dO c (Fin T eO (.rat (q+sQ s r.num.natAbs r.den) (n+m+1))) .ret s'→Q .ret s'):aq P c eO.ntmps tB s' Q:=by
 have d1:=q.den_nz
 have d2:=r.den_nz
 have hz:Sz (q+sQ s r.num.natAbs r.den) (n+m+1):=hq.add (FN d2 hr.1 hr.2)
 obtain⟨q1,q2⟩:=pQ h1
 obtain⟨r1,r2⟩:=pQ h2
 have hval:=G4 q r s
 obtain⟨b,hb⟩:∃b,decide (q<0)=b:=⟨_,rfl⟩
 rw[hb]at hval
 obtain⟨wx,bx⟩:=nF q1 r2
 obtain⟨wy,by'⟩:=nF r1 q2
 obtain⟨wd,bd⟩:=nF q2 r2
 have hd0:q.den*r.den≠0:=Nat.mul_ne_zero d1 d2
 have hk0:c.k0=aW:=by
  funext k
  cases hk:c.k0 k with
  |none=>rfl
  |some x=>have:=h0 0 k x hk;omega
 -- the end by short numbers
 have ret:∀{s':aF} {N D k:Nat} {z:Rat},z=q+sQ s r.num.natAbs r.den→aX ec s'=some (gN s,ni b N D r m fun j=>if j=0 then bn (.rat z k)else .rat 0 1)→Q .ret s':=by
  intro s' N D k z hzv hv
  refine hR _ (xN Yg hv (h0 8193) rfl (Yr fun i _=>?_) ⟨show 0<1 by omega,fS hzv hz⟩)
  split<;>rfl
 have back:∀{s':aF},aX ec s'=some (gN s,ni b q.num.natAbs (if q.den=1 then 0 else q.den) r m fun _=>.rat 0 1)→Q .normal s':=by
  intro s' hv
  refine hN _ (aq.kg (cX (vs:=gN s) (ps:=mZ q r n m) (nx:=8193) [(0,0),(4096,4096),(8192,8192)] hv hk0 (by simp[gD]) ⟨⟨rfl,aI rfl⟩,⟨rfl,mu rfl⟩,⟨rfl,mu rfl⟩,⟨rfl,mu rfl⟩,trivial⟩
   ⟨⟨_,_,rfl,rfl,ji rfl fun i _=>aI rfl⟩,⟨_,_,rfl,rfl,ji rfl fun i _=>aI rfl⟩,⟨_,_,rfl,rfl,ji rfl fun i _=>lZ rfl ?_⟩,trivial⟩) ?_)
  ·rw[←hb];exact Pe hq
  ·exact JO h0 hq hr hn hm' (s:=s) rfl
 refine aq.kg (cX (us:=[.bool s,.ptr 0 0 3 0 [],.ptr 4096 0 3 0 [],.ptr 8192 0 3 0 [],.int .u64 (q.num.natAbs:Nat),.int .u64 (q.den:Nat),.int .u64 (r.num.natAbs:Nat),.int .u64 (r.den:Nat)])
   (vs:=[.bool s,.ptr 0 0 3 0 [],.ptr 4096 0 3 0 [],.ptr 8192 0 3 0 [],.int .u64 (q.num.natAbs:Nat),.int .u64 (q.den:Nat),.int .u64 (r.num.natAbs:Nat),.int .u64 (r.den:Nat)]) (os:=mZ q r n m) (ps:=ni b q.num.natAbs (if q.den=1 then 0 else q.den) r m fun _=>.rat 0 1) (nx:=8193) [(0,0),(4096,4096),(8192,8192)] hv hk0 (by simp[gD])
  ⟨⟨rfl,aI rfl⟩,⟨rfl,mu rfl⟩,⟨rfl,mu rfl⟩,⟨rfl,mu rfl⟩,⟨rfl,aI rfl⟩,⟨rfl,aI rfl⟩,⟨rfl,aI rfl⟩,⟨rfl,aI rfl⟩,trivial⟩
  ⟨⟨_,_,rfl,rfl,ji rfl fun i _=>aI rfl⟩,⟨_,_,rfl,rfl,ji rfl fun i _=>aI rfl⟩,⟨_,_,rfl,rfl,ji rfl fun i _=>lZ rfl (by rw[←hb];exact Rn)⟩,trivial⟩) ?_
 have hD0:0<q.den*r.den:=by omega
 have eqc:b=s→sQ s (q.num.natAbs*r.den+r.num.natAbs*q.den) (q.den*r.den)=q+sQ s r.num.natAbs r.den:=fun h=>by rw[hval,h,Ee hd0]
 have gec:b≠s→r.num.natAbs*q.den≤q.num.natAbs*r.den→sQ b (q.num.natAbs*r.den-r.num.natAbs*q.den) (q.den*r.den)=q+sQ s r.num.natAbs r.den:=fun h h'=>by rw[hval,Ff hd0 h h']
 have ltc:b≠s→q.num.natAbs*r.den≤r.num.natAbs*q.den→sQ s (r.num.natAbs*q.den-q.num.natAbs*r.den) (q.den*r.den)=q+sQ s r.num.natAbs r.den:=fun h h'=>by rw[hval,GF hd0 h h']
 clear hval hv hN hR h1 h2 hb
 generalize q+sQ s r.num.natAbs r.den=V at*
 generalize q.num.natAbs*r.den=X at*
 generalize r.num.natAbs*q.den=Y at*
 generalize q.den*r.den=D at*
 have ws:∀{a b:Nat},b≤a→a≤18446744065119617025→IntKind.u64.wrap ((a:Int)-(b:Int))=((a-b:Nat):Int):=fun {a b} h1 h2=>by rw[bN (by omega) (by omega)];omega
 cases b<;>cases s
 ·refine aq.bf hT lC hm 60 ec afH (by kernel_rfl) ?_
  rw[wx,wy,wd]
  simp only[aa.all,ax,beq_iff_eq,Int.toNat_natCast]
  refine⟨⟨by omega,by omega,by omega⟩,by omega,fun hc=>⟨⟨by omega,by omega,by omega⟩,fun s' hv=>ret ?_ hv⟩,fun hc=>⟨by omega,by omega,fun s' hv=>back hv⟩⟩
  have h:=eq_of_beq (iL hc)
  have e:(((X:Int)+(Y:Int)+0)%18446744073709551616).toNat=X+Y:=by omega
  rw[e];exact eqc rfl
 ·refine aq.bf hT lC hm 60 ec akt (by kernel_rfl) ?_
  rw[wx,wy,wd]
  simp only[aa.all,ax,beq_iff_eq,Int.toNat_natCast]
  refine⟨⟨by omega,by omega,by omega⟩,by omega,by omega,fun hc=>?_,fun hc=>?_⟩
  ·have h:=of_decide_eq_true (iL hc)
   have h':Y≤X:=by omega
   rw[ws h' bx]
   refine⟨⟨by omega,by omega,by omega,by omega⟩,fun s' hv=>ret ?_ hv⟩
   rw[Int.toNat_natCast];exact gec (by simp) h'
  ·have h:=of_decide_eq_false (iL hc)
   have h':X≤Y:=by omega
   rw[ws h' by']
   refine⟨by omega,⟨by omega,by omega,by omega⟩,fun s' hv=>ret ?_ hv⟩
   rw[Int.toNat_natCast];exact ltc (by simp) h'
 ·refine aq.bf hT lC hm 60 ec afc (by kernel_rfl) ?_
  rw[wx,wy,wd]
  simp only[aa.all,ax,beq_iff_eq,Int.toNat_natCast]
  refine⟨⟨by omega,by omega,by omega⟩,by omega,by omega,fun hc=>?_,fun hc=>?_⟩
  ·have h:=of_decide_eq_true (iL hc)
   have h':Y≤X:=by omega
   rw[ws h' bx]
   refine⟨⟨by omega,by omega,by omega,by omega⟩,fun s' hv=>ret ?_ hv⟩
   rw[Int.toNat_natCast];exact gec (by simp) h'
  ·have h:=of_decide_eq_false (iL hc)
   have h':X≤Y:=by omega
   rw[ws h' by']
   refine⟨by omega,⟨by omega,by omega,by omega⟩,fun s' hv=>ret ?_ hv⟩
   rw[Int.toNat_natCast];exact ltc (by simp) h'
 ·refine aq.bf hT lC hm 60 ec aaY (by kernel_rfl) ?_
  rw[wx,wy,wd]
  simp only[aa.all,ax,beq_iff_eq,Int.toNat_natCast]
  refine⟨⟨by omega,by omega,by omega⟩,by omega,fun hc=>⟨⟨by omega,by omega,by omega⟩,fun s' hv=>ret ?_ hv⟩,fun hc=>⟨by omega,by omega,fun s' hv=>back hv⟩⟩
  have h:=eq_of_beq (iL hc)
  have e:(((X:Int)+(Y:Int)+0)%18446744073709551616).toNat=X+Y:=by omega
  rw[e];exact eqc rfl
theorem aah (hn:n<2^42) (hm':m<2^42) (K:Nat) (pre:aC):aB P vq K [.rat q n,.rat r m,.bool s] pre (aK (.rat (q+sQ s r.num.natAbs r.den) (n+m+1)) []):=by
 refine jj fun⟨hq,hr,_⟩=>?_
 have hq:Sz q n:=hq
 have hr:Sz r m:=hr
 refine iq hT RQ rfl (of_decide_eq_true (by kernel_rfl)) rfl (fun _ c h0=>?_) K pre
 have long:=fun {s':aF}=>JO (s:=s) (s':=s') h0 hq hr hn hm'
 have fin:∀{s':aF} {R:AV},aq P c eO.ntmps mW s' (dO c (Fin T eO R))→aq P c eO.ntmps mW s' (dz (fun s''=>aD P c eO.ntmps (behind (au eO) [1,1]) s'' (dO c (Fin T eO R))) (dO c (Fin T eO R))):=
  fun h=>aq.mono h fun e s' h=>by cases e<;>exact h
 refine aq.hole [1,1] (by kernel_rfl) (aD.chunk 1 (aD.bf hT lC hm 60 ec TB (by kernel_rfl) fun s' hv=>bY ?_))
 show aD P c eO.ntmps [Fp] s' _
 refine aD.jD hv (h0 8193) rfl rfl Cj ?_
 refine aq.hole [1,1] (by kernel_rfl) (aD.bf hT lC hm 60 (ec++[7,8,28]) RB (by kernel_rfl) ⟨show 0<1 by omega,fun s' hv=>bY ?_⟩)
 refine aq.cond (b:=.tmp 28) (x:=FO) (y:=.skip) (AF hv rfl rfl) (fun h1=>?_) (fun h1=>aq.skip (by exact fin (long (hH (ls:=ec) (l:=[7,8,28]) (vs:=gN s) hv rfl rfl))))
 simp only[h1,if_true]at hv
 have hv:=hH (ls:=ec++[7,8]) (l:=[28]) (vs:=gN s++[.int .u64 (q.num.natAbs:Nat),.int .u64 (q.den:Nat)]) hv rfl rfl
 refine aq.jD hv (h0 8193) rfl Cj ?_
 refine aq.hole [1,1] (by kernel_rfl) (aD.bf hT lC hm 60 (ec++[7,8,10,11,35]) agb (by kernel_rfl) ⟨show 0<1 by omega,fun s' hv=>bY ?_⟩)
 refine aq.cond (b:=.tmp 35) (x:=tB) (y:=.skip) (AF hv rfl rfl) (fun h2=>?_) (fun h2=>aq.skip (by exact fin (long (hH (ls:=ec) (l:=[7,8,10,11,35]) (vs:=gN s) hv rfl rfl))))
 simp only[h2,if_true]at hv
 exact ajQ h0 hq hr hn hm' h1 h2 (hH (ls:=ec++[7,8,10,11]) (l:=[35]) (vs:=gN s++[.int .u64 (q.num.natAbs:Nat),.int .u64 (q.den:Nat),.int .u64 (r.num.natAbs:Nat),.int .u64 (r.den:Nat)]) hv rfl rfl)
  (fun s' h=>by exact fin h) (fun s' h=>by exact h)
end add
end Go.Am.B
