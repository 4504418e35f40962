/- rational.add, Add, Sub, Mul, Quo. -/
import Derived.Test.YtppeigelbecpbaaGreatB19
set_option linter.unusedVariables false
namespace Go.Am.B
open Go Go.Am.N AV
theorem Jt {b:Bool} {N D k:Nat} (hk:k≠0):sQ b (N*k) (D*k)=sQ b N D:=by
 unfold sQ
 have:eC b (N*k)=eC b N*(k:Int):=by unfold eC;split<;>simp[Int.neg_mul]
 rw[this,Rat.mkRat_mul_right hk]
theorem C1 {a c:Int} {d:Nat} (hd:d≠0):mkRat a d+mkRat c d=mkRat (a+c) d:=by
 rw[Rat.mkRat_add_mkRat _ _ hd hd,←Int.add_mul,Rat.mkRat_mul_right hd]
theorem CZ {s:Bool} {X Y D:Nat} (hD:D≠0):sQ s X D+sQ s Y D=sQ s (X+Y) D:=by
 unfold sQ
 rw[C1 hD]
 congr 1
 unfold eC;split<;>simp<;>omega
theorem E8 {b s:Bool} {X Y D:Nat} (hD:D≠0) (hb:b≠s) (h:Y≤X):sQ b X D+sQ s Y D=sQ b (X-Y) D:=by
 unfold sQ
 rw[C1 hD]
 congr 1
 unfold eC
 cases b<;>cases s<;>simp at hb ⊢<;>omega
theorem Dw {b s:Bool} {X Y D:Nat} (hD:D≠0) (hb:b≠s) (h:X≤Y):sQ b X D+sQ s Y D=sQ s (Y-X) D:=by
 unfold sQ
 rw[C1 hD]
 congr 1
 unfold eC
 cases b<;>cases s<;>simp at hb ⊢<;>omega
theorem aco {b s : Bool} {X Y : Nat} : eC b X * eC s Y = eC (b != s) (X * Y) := by
 unfold eC
 cases b<;>cases s<;>simp[Int.neg_mul,Int.mul_neg]
theorem BS {b s : Bool} {X Y D E : Nat} : sQ b X D * sQ s Y E = sQ (b != s) (X * Y) (D * E) := by
 unfold sQ
 rw[Rat.mkRat_mul_mkRat,aco]
theorem nT {q:Rat} (h:cY q=true):q.num.natAbs<4294967296∧q.den<4294967296:=by
 unfold cY at h
 simpa using h
theorem mo {a b:Nat} (ha:a<4294967296) (hb:b<4294967296):IntKind.u64.wrap ((a:Int)*(b:Int))=((a*b:Nat):Int)∧a*b≤18446744065119617025:=by
 have h:=Nat.mul_le_mul (show a≤4294967295 by omega) (show b≤4294967295 by omega)
 refine⟨?_,h⟩
 rw[show(a:Int)*(b:Int)=((a*b:Nat):Int) by simp,bH (by omega) (by omega)]
section add
variable {q r:Rat} {n m:Nat} {s:Bool}
theorem abQ {f:Nat→AV} (hf:∀i,i<1→keys (f i)=[]) {b:Bool} {N D:Nat}:fA 8193 (lg b N D r m f):=⟨⟨by omega,hf⟩,⟨by omega,fun _ _=>rfl⟩,⟨by omega,fun _ _=>rfl⟩,trivial⟩
theorem Ac:fA 8193 (kH q r n m):=⟨⟨by omega,fun _ _=>rfl⟩,⟨by omega,fun _ _=>rfl⟩,⟨by omega,fun _ _=>rfl⟩,trivial⟩
theorem C0 (q r:Rat) (s:Bool):q+sQ s r.num.natAbs r.den=sQ (decide (q<0)) (q.num.natAbs*r.den) (q.den*r.den)+sQ s (r.num.natAbs*q.den) (q.den*r.den):=by
 rw[Jt r.den_nz,jo,Nat.mul_comm q.den,Jt q.den_nz]
theorem Ka {c:Ctx} (h0:∀nx k x,c.k0 k=some x→k<nx) (hq:Sz q n) (hr:Sz r m) (hn:n<2^42) (hm':m<2^42) {s':aE} (hv:aU dz s'=some (fW s,kH q r n m)):
  ak P c dY.ntmps kW s' (dm c (Fin T dY (.rat (q+sQ s r.num.natAbs r.den) (n+m+1)))):=by
 obtain⟨a1,a2,a3⟩:=Sz.gN hq (by omega)
 obtain⟨b1,b2,b3⟩:=Sz.gN hr (by omega)
 have d1:=q.den_nz
 have d2:=r.den_nz
 have hz:Sz (q+sQ s r.num.natAbs r.den) (n+m+1):=hq.add (B0 d2 hr.1 hr.2)
 have bx:∀{a b:Nat},a<2^n→b<2^m→nl (a*b)<2^40:=fun ha hb=>iN (n:=n+m) (by rw[Nat.pow_add];exact Nat.mul_lt_mul'' ha hb) (by omega)
 have last:∀{s':aE} {X Y D k:Nat},k<2^43→X<2^k→Y<2^k→nl D<2^40→D≠0→q+sQ s r.num.natAbs r.den=sQ (decide (q<0)) X D+sQ s Y D→aU (dz++[15,16,17]) s'=some (fW s++[.mag X,.mag Y,.mag D],kH q r n m)→
   aC P c dY.ntmps [part kW [1,1]] s' (dm c (Fin T dY (.rat (q+sQ s r.num.natAbs r.den) (n+m+1)))):=by
  intro s' X Y D k hk hX2 hY2 hD hD0 heq hv
  have hX:=iN hX2 (by omega)
  have hY:=iN hY2 (by omega)
  have hXY:nl (X+Y)<2^40:=iN (n:=k+1) (by rw[Nat.pow_succ];omega) (by omega)
  refine aC.iM hT jr hm 60 hv (h0 _) rfl Ac afe (by kernel_rfl) rfl ?_
  simp only[aa.all,ax,beq_iff_eq,beq_eq_false_iff_ne,ne_eq]
  refine⟨by omega,fun hb=>⟨⟨hX,hY,hXY,hD,by omega⟩,by omega,fl ?_ hz⟩,fun hb=>⟨⟨hX,hY⟩,fun hc=>⟨⟨by omega,Nat.lt_of_le_of_lt (fO (Nat.sub_le _ _)) hX,hD,by omega⟩,by omega,fl ?_ hz⟩,fun hc=>⟨⟨hY,hX⟩,⟨Nat.lt_of_le_of_lt (fO (Nat.sub_le _ _)) hY,hD,by omega⟩,by omega,fl ?_ hz⟩⟩⟩
  ·rw[heq,hb,CZ hD0]
  ·rw[heq,E8 hD0 hb (by split at hc<;>omega)]
  ·rw[heq,Dw hD0 hb (by split at hc<;>omega)]
 have mulb:∀{a b:Nat},a<2^n→b<2^m→a*b<2^(n+m):=fun ha hb=>by rw[Nat.pow_add];exact Nat.mul_lt_mul'' ha hb
 refine ak.hole [1,1] (by kernel_rfl) (aC.dS hT jr hm 60 hv (h0 _) rfl Ac (dz++[15,16,17]) Vc (by kernel_rfl) rfl ?_)
 simp only[aa.all,ax,Bool.not_eq_true',decide_eq_false_iff_not,Bool.not_eq_false',decide_eq_true_eq]
 have fin:∀{s':aE} {R:AV},aC P c dY.ntmps [part kW [1,1]] s' (dm c (Fin T dY R))→ak P c dY.ntmps (part kW [1,1]) s' (cX (fun s''=>aC P c dY.ntmps (behind kW [1,1]) s'' (dm c (Fin T dY R))) (dm c (Fin T dY R))):=
  fun h=>ak.mono h fun e s' h=>by cases e<;>exact h
 refine⟨⟨by omega,by omega,by omega⟩,⟨by omega,by omega,a3,b3⟩,fun hb=>⟨⟨by omega,a1,b2,by omega,b1,a2,by omega,a2,b2⟩,fun s' hv=>bX (fin (last (k:=n+m) (by omega) (mulb hq.1 hr.2) ?_ (bx hq.2 hr.2) (Nat.mul_ne_zero d1 d2) (C0 q r s) hv))⟩,fun hb s' hv=>bX (fin (last (k:=n+m) (by omega) (Nat.lt_of_lt_of_le hq.1 (Nat.pow_le_pow_right (by omega) (by omega))) (Nat.lt_of_lt_of_le hr.1 (Nat.pow_le_pow_right (by omega) (by omega))) a2 d1 ?_ hv))⟩
 ·rw[Nat.mul_comm];exact mulb hq.2 hr.1
 ·have:q.den=r.den:=by split at hb<;>split at hb<;>omega
  rw[←this,jo]
theorem Qh {c:Ctx} (h0:∀nx k x,c.k0 k=some x→k<nx) (hq:Sz q n) (hr:Sz r m) (hn:n<2^42) (hm':m<2^42) (h1:cY q=true) (h2:cY r=true) {s':aE} {Q:aj→aE→Prop}
  (hv:aU (dz++[7,8,10,11]) s'=some (fW s++[.int .u64 (q.num.natAbs:Nat),.int .u64 (q.den:Nat),.int .u64 (r.num.natAbs:Nat),.int .u64 (r.den:Nat)],kH q r n m))
  (hN:∀s',ak P c dY.ntmps kW s' (dm c (Fin T dY (.rat (q+sQ s r.num.natAbs r.den) (n+m+1))))→Q .normal s')
  (hR:∀s',dm c (Fin T dY (.rat (q+sQ s r.num.natAbs r.den) (n+m+1))) .ret s'→Q .ret s'):ak P c dY.ntmps rU s' Q:=by
 have d1:=q.den_nz
 have d2:=r.den_nz
 have hz:Sz (q+sQ s r.num.natAbs r.den) (n+m+1):=hq.add (B0 d2 hr.1 hr.2)
 obtain⟨q1,q2⟩:=nT h1
 obtain⟨r1,r2⟩:=nT h2
 have hval:=C0 q r s
 obtain⟨b,hb⟩:∃b,decide (q<0)=b:=⟨_,rfl⟩
 rw[hb]at hval
 obtain⟨wx,bx⟩:=mo q1 r2
 obtain⟨wy,by'⟩:=mo r1 q2
 obtain⟨wd,bd⟩:=mo q2 r2
 have hd0:q.den*r.den≠0:=Nat.mul_ne_zero d1 d2
 have hk0:c.k0=aY:=by
  funext k
  cases hk:c.k0 k with
  |none=>rfl
  |some x=>have:=h0 0 k x hk;omega
 -- the end by short numbers
 have ret:∀{s':aE} {N D k:Nat} {z:Rat},z=q+sQ s r.num.natAbs r.den→aU dz s'=some (fW s,lg b N D r m fun j=>if j=0 then bh (.rat z k)else .rat 0 1)→Q .ret s':=by
  intro s' N D k z hzv hv
  refine hR _ (sy XZ hv (h0 8193) rfl (abQ fun i _=>?_) ⟨show 0<1 by omega,fl hzv hz⟩)
  split<;>rfl
 have back:∀{s':aE},aU dz s'=some (fW s,lg b q.num.natAbs (if q.den=1 then 0 else q.den) r m fun _=>.rat 0 1)→Q .normal s':=by
  intro s' hv
  refine hN _ (ak.j0 (cK (vs:=fW s) (ps:=kH q r n m) (nx:=8193) [(0,0),(4096,4096),(8192,8192)] hv hk0 (by simp[gL]) ⟨⟨rfl,aH rfl⟩,⟨rfl,kr rfl⟩,⟨rfl,kr rfl⟩,⟨rfl,kr rfl⟩,trivial⟩
   ⟨⟨_,_,rfl,rfl,ic rfl fun i _=>aH rfl⟩,⟨_,_,rfl,rfl,ic rfl fun i _=>aH rfl⟩,⟨_,_,rfl,rfl,ic rfl fun i _=>ny rfl ?_⟩,trivial⟩) ?_)
  ·rw[←hb];exact IW hq
  ·exact Ka h0 hq hr hn hm' (s:=s) rfl
 refine ak.j0 (cK (us:=[.bool s,.ptr 0 0 3 0 [],.ptr 4096 0 3 0 [],.ptr 8192 0 3 0 [],.int .u64 (q.num.natAbs:Nat),.int .u64 (q.den:Nat),.int .u64 (r.num.natAbs:Nat),.int .u64 (r.den:Nat)])
   (vs:=[.bool s,.ptr 0 0 3 0 [],.ptr 4096 0 3 0 [],.ptr 8192 0 3 0 [],.int .u64 (q.num.natAbs:Nat),.int .u64 (q.den:Nat),.int .u64 (r.num.natAbs:Nat),.int .u64 (r.den:Nat)]) (os:=kH q r n m) (ps:=lg b q.num.natAbs (if q.den=1 then 0 else q.den) r m fun _=>.rat 0 1) (nx:=8193) [(0,0),(4096,4096),(8192,8192)] hv hk0 (by simp[gL])
  ⟨⟨rfl,aH rfl⟩,⟨rfl,kr rfl⟩,⟨rfl,kr rfl⟩,⟨rfl,kr rfl⟩,⟨rfl,aH rfl⟩,⟨rfl,aH rfl⟩,⟨rfl,aH rfl⟩,⟨rfl,aH rfl⟩,trivial⟩
  ⟨⟨_,_,rfl,rfl,ic rfl fun i _=>aH rfl⟩,⟨_,_,rfl,rfl,ic rfl fun i _=>aH rfl⟩,⟨_,_,rfl,rfl,ic rfl fun i _=>ny rfl (by rw[←hb];exact GF)⟩,trivial⟩) ?_
 have hD0:0<q.den*r.den:=by omega
 have eqc:b=s→sQ s (q.num.natAbs*r.den+r.num.natAbs*q.den) (q.den*r.den)=q+sQ s r.num.natAbs r.den:=fun h=>by rw[hval,h,CZ hd0]
 have gec:b≠s→r.num.natAbs*q.den≤q.num.natAbs*r.den→sQ b (q.num.natAbs*r.den-r.num.natAbs*q.den) (q.den*r.den)=q+sQ s r.num.natAbs r.den:=fun h h'=>by rw[hval,E8 hd0 h h']
 have ltc:b≠s→q.num.natAbs*r.den≤r.num.natAbs*q.den→sQ s (r.num.natAbs*q.den-q.num.natAbs*r.den) (q.den*r.den)=q+sQ s r.num.natAbs r.den:=fun h h'=>by rw[hval,Dw hd0 h h']
 clear hval hv hN hR h1 h2 hb
 generalize q+sQ s r.num.natAbs r.den=V at*
 generalize q.num.natAbs*r.den=X at*
 generalize r.num.natAbs*q.den=Y at*
 generalize q.den*r.den=D at*
 have ws:∀{a b:Nat},b≤a→a≤18446744065119617025→IntKind.u64.wrap ((a:Int)-(b:Int))=((a-b:Nat):Int):=fun {a b} h1 h2=>by rw[bH (by omega) (by omega)];omega
 cases b<;>cases s
 ·refine ak.bf hT jr hm 60 dz NT (by kernel_rfl) ?_
  rw[wx,wy,wd]
  simp only[aa.all,ax,beq_iff_eq,Int.toNat_natCast]
  refine⟨⟨by omega,by omega,by omega⟩,by omega,fun hc=>⟨⟨by omega,by omega,by omega⟩,fun s' hv=>ret ?_ hv⟩,fun hc=>⟨by omega,by omega,fun s' hv=>back hv⟩⟩
  have h:=eq_of_beq (gV hc)
  have e:(((X:Int)+(Y:Int)+0)%18446744073709551616).toNat=X+Y:=by omega
  rw[e];exact eqc rfl
 ·refine ak.bf hT jr hm 60 dz abW (by kernel_rfl) ?_
  rw[wx,wy,wd]
  simp only[aa.all,ax,beq_iff_eq,Int.toNat_natCast]
  refine⟨⟨by omega,by omega,by omega⟩,by omega,by omega,fun hc=>?_,fun hc=>?_⟩
  ·have h:=of_decide_eq_true (gV hc)
   have h':Y≤X:=by omega
   rw[ws h' bx]
   refine⟨⟨by omega,by omega,by omega,by omega⟩,fun s' hv=>ret ?_ hv⟩
   rw[Int.toNat_natCast];exact gec (by simp) h'
  ·have h:=of_decide_eq_false (gV hc)
   have h':X≤Y:=by omega
   rw[ws h' by']
   refine⟨by omega,⟨by omega,by omega,by omega⟩,fun s' hv=>ret ?_ hv⟩
   rw[Int.toNat_natCast];exact ltc (by simp) h'
 ·refine ak.bf hT jr hm 60 dz agh (by kernel_rfl) ?_
  rw[wx,wy,wd]
  simp only[aa.all,ax,beq_iff_eq,Int.toNat_natCast]
  refine⟨⟨by omega,by omega,by omega⟩,by omega,by omega,fun hc=>?_,fun hc=>?_⟩
  ·have h:=of_decide_eq_true (gV hc)
   have h':Y≤X:=by omega
   rw[ws h' bx]
   refine⟨⟨by omega,by omega,by omega,by omega⟩,fun s' hv=>ret ?_ hv⟩
   rw[Int.toNat_natCast];exact gec (by simp) h'
  ·have h:=of_decide_eq_false (gV hc)
   have h':X≤Y:=by omega
   rw[ws h' by']
   refine⟨by omega,⟨by omega,by omega,by omega⟩,fun s' hv=>ret ?_ hv⟩
   rw[Int.toNat_natCast];exact ltc (by simp) h'
 ·refine ak.bf hT jr hm 60 dz acE (by kernel_rfl) ?_
  rw[wx,wy,wd]
  simp only[aa.all,ax,beq_iff_eq,Int.toNat_natCast]
  refine⟨⟨by omega,by omega,by omega⟩,by omega,fun hc=>⟨⟨by omega,by omega,by omega⟩,fun s' hv=>ret ?_ hv⟩,fun hc=>⟨by omega,by omega,fun s' hv=>back hv⟩⟩
  have h:=eq_of_beq (gV hc)
  have e:(((X:Int)+(Y:Int)+0)%18446744073709551616).toNat=X+Y:=by omega
  rw[e];exact eqc rfl
theorem agb (hn:n<2^42) (hm':m<2^42) (K:Nat) (pre:aA):az P xG K [.rat q n,.rat r m,.bool s] pre (aF (.rat (q+sQ s r.num.natAbs r.den) (n+m+1)) []):=by
 refine gU fun⟨hq,hr,_⟩=>?_
 have hq:Sz q n:=hq
 have hr:Sz r m:=hr
 refine eB hT abG rfl (of_decide_eq_true (by kernel_rfl)) rfl (fun _ c h0=>?_) K pre
 have long:=fun {s':aE}=>Ka (s:=s) (s':=s') h0 hq hr hn hm'
 have fin:∀{s':aE} {R:AV},ak P c dY.ntmps kW s' (dm c (Fin T dY R))→ak P c dY.ntmps kW s' (cX (fun s''=>aC P c dY.ntmps (behind (aq dY) [1,1]) s'' (dm c (Fin T dY R))) (dm c (Fin T dY R))):=
  fun h=>ak.mono h fun e s' h=>by cases e<;>exact h
 refine ak.hole [1,1] (by kernel_rfl) (aC.chunk 1 (aC.bf hT jr hm 60 dz Yw (by kernel_rfl) fun s' hv=>bX ?_))
 show aC P c dY.ntmps [Ep] s' _
 refine aC.iQ hv (h0 8193) rfl rfl Ac ?_
 refine ak.hole [1,1] (by kernel_rfl) (aC.bf hT jr hm 60 (dz++[7,8,28]) Xu (by kernel_rfl) ⟨show 0<1 by omega,fun s' hv=>bX ?_⟩)
 refine ak.cond (b:=.tmp 28) (x:=D4) (y:=.skip) (ux hv rfl rfl) (fun h1=>?_) (fun h1=>ak.skip (by exact fin (long (gl (ls:=dz) (l:=[7,8,28]) (vs:=fW s) hv rfl rfl))))
 simp only[h1,if_true]at hv
 have hv:=gl (ls:=dz++[7,8]) (l:=[28]) (vs:=fW s++[.int .u64 (q.num.natAbs:Nat),.int .u64 (q.den:Nat)]) hv rfl rfl
 refine ak.iQ hv (h0 8193) rfl Ac ?_
 refine ak.hole [1,1] (by kernel_rfl) (aC.bf hT jr hm 60 (dz++[7,8,10,11,35]) afZ (by kernel_rfl) ⟨show 0<1 by omega,fun s' hv=>bX ?_⟩)
 refine ak.cond (b:=.tmp 35) (x:=rU) (y:=.skip) (ux hv rfl rfl) (fun h2=>?_) (fun h2=>ak.skip (by exact fin (long (gl (ls:=dz) (l:=[7,8,10,11,35]) (vs:=fW s) hv rfl rfl))))
 simp only[h2,if_true]at hv
 exact Qh h0 hq hr hn hm' h1 h2 (gl (ls:=dz++[7,8,10,11]) (l:=[35]) (vs:=fW s++[.int .u64 (q.num.natAbs:Nat),.int .u64 (q.den:Nat),.int .u64 (r.num.natAbs:Nat),.int .u64 (r.den:Nat)]) hv rfl rfl)
  (fun s' h=>by exact fin h) (fun s' h=>by exact h)
end add
end Go.Am.B
