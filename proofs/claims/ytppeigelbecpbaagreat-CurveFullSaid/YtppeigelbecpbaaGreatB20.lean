/- rational.add, Add, Sub, Mul, Quo. -/
import Derived.Test.YtppeigelbecpbaaGreatB19
set_option linter.unusedVariables false
namespace Go.Am.B
open Go Go.Am.N AV
theorem Ip {b:Bool} {N D k:Nat} (hk:k≠0):sQ b (N*k) (D*k)=sQ b N D:=by
 unfold sQ
 have:ej b (N*k)=ej b N*(k:Int):=by unfold ej;split<;>simp[Int.neg_mul]
 rw[this,Rat.mkRat_mul_right hk]
theorem ze {a c:Int} {d:Nat} (hd:d≠0):mkRat a d+mkRat c d=mkRat (a+c) d:=by
 rw[Rat.mkRat_add_mkRat _ _ hd hd,←Int.add_mul,Rat.mkRat_mul_right hd]
theorem zZ {s:Bool} {X Y D:Nat} (hD:D≠0):sQ s X D+sQ s Y D=sQ s (X+Y) D:=by
 unfold sQ
 rw[ze hD]
 congr 1
 unfold ej;split<;>simp<;>omega
theorem Bw {b s:Bool} {X Y D:Nat} (hD:D≠0) (hb:b≠s) (h:Y≤X):sQ b X D+sQ s Y D=sQ b (X-Y) D:=by
 unfold sQ
 rw[ze hD]
 congr 1
 unfold ej
 cases b<;>cases s<;>simp at hb ⊢<;>omega
theorem yY {b s:Bool} {X Y D:Nat} (hD:D≠0) (hb:b≠s) (h:X≤Y):sQ b X D+sQ s Y D=sQ s (Y-X) D:=by
 unfold sQ
 rw[ze hD]
 congr 1
 unfold ej
 cases b<;>cases s<;>simp at hb ⊢<;>omega
theorem Up {b s : Bool} {X Y : Nat} : ej b X * ej s Y = ej (b != s) (X * Y) := by
 unfold ej
 cases b<;>cases s<;>simp[Int.neg_mul,Int.mul_neg]
theorem z9 {b s : Bool} {X Y D E : Nat} : sQ b X D * sQ s Y E = sQ (b != s) (X * Y) (D * E) := by
 unfold sQ
 rw[Rat.mkRat_mul_mkRat,Up]
theorem mz {q:Rat} (h:cM q=true):q.num.natAbs<4294967296∧q.den<4294967296:=by
 unfold cM at h
 simpa using h
theorem j3 {a b:Nat} (ha:a<4294967296) (hb:b<4294967296):IntKind.u64.wrap ((a:Int)*(b:Int))=((a*b:Nat):Int)∧a*b≤18446744065119617025:=by
 have h:=Nat.mul_le_mul (show a≤4294967295 by omega) (show b≤4294967295 by omega)
 refine⟨?_,h⟩
 rw[show(a:Int)*(b:Int)=((a*b:Nat):Int) by simp,bA (by omega) (by omega)]
section add
variable {q r:Rat} {n m:Nat} {s:Bool}
theorem XE {f:Nat→AV} (hf:∀i,i<1→keys (f i)=[]) {b:Bool} {N D:Nat}:ff 8193 (kT b N D r m f):=⟨⟨by omega,hf⟩,⟨by omega,fun _ _=>rfl⟩,⟨by omega,fun _ _=>rfl⟩,trivial⟩
theorem x6:ff 8193 (jK q r n m):=⟨⟨by omega,fun _ _=>rfl⟩,⟨by omega,fun _ _=>rfl⟩,⟨by omega,fun _ _=>rfl⟩,trivial⟩
theorem A3 (q r:Rat) (s:Bool):q+sQ s r.num.natAbs r.den=sQ (decide (q<0)) (q.num.natAbs*r.den) (q.den*r.den)+sQ s (r.num.natAbs*q.den) (q.den*r.den):=by
 rw[Ip r.den_nz,iq,Nat.mul_comm q.den,Ip q.den_nz]
theorem DM {c:Ctx} (h0:∀nx k x,c.k0 k=some x→k<nx) (hq:Sz q n) (hr:Sz r m) (hn:n<2^42) (hm':m<2^42) {s':aE} (hv:aR cV s'=some (fF s,jK q r n m)):
  aj P c dI.ntmps jR s' (cR c (Fin T dI (.rat (q+sQ s r.num.natAbs r.den) (n+m+1)))):=by
 obtain⟨a1,a2,a3⟩:=Sz.gk hq (by omega)
 obtain⟨b1,b2,b3⟩:=Sz.gk hr (by omega)
 have d1:=q.den_nz
 have d2:=r.den_nz
 have hz:Sz (q+sQ s r.num.natAbs r.den) (n+m+1):=hq.add (Ar d2 hr.1 hr.2)
 have bx:∀{a b:Nat},a<2^n→b<2^m→nl (a*b)<2^40:=fun ha hb=>g9 (n:=n+m) (by rw[Nat.pow_add];exact Nat.mul_lt_mul'' ha hb) (by omega)
 have last:∀{s':aE} {X Y D k:Nat},k<2^43→X<2^k→Y<2^k→nl D<2^40→D≠0→q+sQ s r.num.natAbs r.den=sQ (decide (q<0)) X D+sQ s Y D→aR (cV++[15,16,17]) s'=some (fF s++[.mag X,.mag Y,.mag D],jK q r n m)→
   aC P c dI.ntmps [part jR [1,1]] s' (cR c (Fin T dI (.rat (q+sQ s r.num.natAbs r.den) (n+m+1)))):=by
  intro s' X Y D k hk hX2 hY2 hD hD0 heq hv
  have hX:=g9 hX2 (by omega)
  have hY:=g9 hY2 (by omega)
  have hXY:nl (X+Y)<2^40:=g9 (n:=k+1) (by rw[Nat.pow_succ];omega) (by omega)
  refine aC.g8 hT iK hm 60 hv (h0 _) rfl x6 U3 (by kernel_rfl) rfl ?_
  simp only[aa.all,az,beq_iff_eq,beq_eq_false_iff_ne,ne_eq]
  refine⟨by omega,fun hb=>⟨⟨hX,hY,hXY,hD,by omega⟩,by omega,fj ?_ hz⟩,fun hb=>⟨⟨hX,hY⟩,fun hc=>⟨⟨by omega,Nat.lt_of_le_of_lt (fA (Nat.sub_le _ _)) hX,hD,by omega⟩,by omega,fj ?_ hz⟩,fun hc=>⟨⟨hY,hX⟩,⟨Nat.lt_of_le_of_lt (fA (Nat.sub_le _ _)) hY,hD,by omega⟩,by omega,fj ?_ hz⟩⟩⟩
  ·rw[heq,hb,zZ hD0]
  ·rw[heq,Bw hD0 hb (by split at hc<;>omega)]
  ·rw[heq,yY hD0 hb (by split at hc<;>omega)]
 have mulb:∀{a b:Nat},a<2^n→b<2^m→a*b<2^(n+m):=fun ha hb=>by rw[Nat.pow_add];exact Nat.mul_lt_mul'' ha hb
 refine aj.hole [1,1] (by kernel_rfl) (aC.dB hT iK hm 60 hv (h0 _) rfl x6 (cV++[15,16,17]) Tm (by kernel_rfl) rfl ?_)
 simp only[aa.all,az,Bool.not_eq_true',decide_eq_false_iff_not,Bool.not_eq_false',decide_eq_true_eq]
 have fin:∀{s':aE} {R:AV},aC P c dI.ntmps [part jR [1,1]] s' (cR c (Fin T dI R))→aj P c dI.ntmps (part jR [1,1]) s' (cK (fun s''=>aC P c dI.ntmps (behind jR [1,1]) s'' (cR c (Fin T dI R))) (cR c (Fin T dI R))):=
  fun h=>aj.mono h fun e s' h=>by cases e<;>exact h
 refine⟨⟨by omega,by omega,by omega⟩,⟨by omega,by omega,a3,b3⟩,fun hb=>⟨⟨by omega,a1,b2,by omega,b1,a2,by omega,a2,b2⟩,fun s' hv=>bK (fin (last (k:=n+m) (by omega) (mulb hq.1 hr.2) ?_ (bx hq.2 hr.2) (Nat.mul_ne_zero d1 d2) (A3 q r s) hv))⟩,fun hb s' hv=>bK (fin (last (k:=n+m) (by omega) (Nat.lt_of_lt_of_le hq.1 (Nat.pow_le_pow_right (by omega) (by omega))) (Nat.lt_of_lt_of_le hr.1 (Nat.pow_le_pow_right (by omega) (by omega))) a2 d1 ?_ hv))⟩
 ·rw[Nat.mul_comm];exact mulb hq.2 hr.1
 ·have:q.den=r.den:=by split at hb<;>split at hb<;>omega
  rw[←this,iq]
theorem Td {c:Ctx} (h0:∀nx k x,c.k0 k=some x→k<nx) (hq:Sz q n) (hr:Sz r m) (hn:n<2^42) (hm':m<2^42) (h1:cM q=true) (h2:cM r=true) {s':aE} {Q:ah→aE→Prop}
  (hv:aR (cV++[7,8,10,11]) s'=some (fF s++[.int .u64 (q.num.natAbs:Nat),.int .u64 (q.den:Nat),.int .u64 (r.num.natAbs:Nat),.int .u64 (r.den:Nat)],jK q r n m))
  (hN:∀s',aj P c dI.ntmps jR s' (cR c (Fin T dI (.rat (q+sQ s r.num.natAbs r.den) (n+m+1))))→Q .normal s')
  (hR:∀s',cR c (Fin T dI (.rat (q+sQ s r.num.natAbs r.den) (n+m+1))) .ret s'→Q .ret s'):aj P c dI.ntmps oW s' Q:=by
 have d1:=q.den_nz
 have d2:=r.den_nz
 have hz:Sz (q+sQ s r.num.natAbs r.den) (n+m+1):=hq.add (Ar d2 hr.1 hr.2)
 obtain⟨q1,q2⟩:=mz h1
 obtain⟨r1,r2⟩:=mz h2
 have hval:=A3 q r s
 obtain⟨b,hb⟩:∃b,decide (q<0)=b:=⟨_,rfl⟩
 rw[hb]at hval
 obtain⟨wx,bx⟩:=j3 q1 r2
 obtain⟨wy,by'⟩:=j3 r1 q2
 obtain⟨wd,bd⟩:=j3 q2 r2
 have hd0:q.den*r.den≠0:=Nat.mul_ne_zero d1 d2
 have hk0:c.k0=aS:=by
  funext k
  cases hk:c.k0 k with
  |none=>rfl
  |some x=>have:=h0 0 k x hk;omega
 -- the end by short numbers
 have ret:∀{s':aE} {N D k:Nat} {z:Rat},z=q+sQ s r.num.natAbs r.den→aR cV s'=some (fF s,kT b N D r m fun j=>if j=0 then bH (.rat z k)else .rat 0 1)→Q .ret s':=by
  intro s' N D k z hzv hv
  refine hR _ (uN OX hv (h0 8193) rfl (XE fun i _=>?_) ⟨show 0<1 by omega,fj hzv hz⟩)
  split<;>rfl
 have back:∀{s':aE},aR cV s'=some (fF s,kT b q.num.natAbs (if q.den=1 then 0 else q.den) r m fun _=>.rat 0 1)→Q .normal s':=by
  intro s' hv
  refine hN _ (aj.jd (cu (vs:=fF s) (ps:=jK q r n m) (nx:=8193) [(0,0),(4096,4096),(8192,8192)] hv hk0 (by simp[ia]) ⟨⟨rfl,aF rfl⟩,⟨rfl,m7 rfl⟩,⟨rfl,m7 rfl⟩,⟨rfl,m7 rfl⟩,trivial⟩
   ⟨⟨_,_,rfl,rfl,gW rfl fun i _=>aF rfl⟩,⟨_,_,rfl,rfl,gW rfl fun i _=>aF rfl⟩,⟨_,_,rfl,rfl,gW rfl fun i _=>jD rfl ?_⟩,trivial⟩) ?_)
  ·rw[←hb];exact GL hq
  ·exact DM h0 hq hr hn hm' (s:=s) rfl
 refine aj.jd (cu (us:=[.bool s,.ptr 0 0 3 0 [],.ptr 4096 0 3 0 [],.ptr 8192 0 3 0 [],.int .u64 (q.num.natAbs:Nat),.int .u64 (q.den:Nat),.int .u64 (r.num.natAbs:Nat),.int .u64 (r.den:Nat)])
   (vs:=[.bool s,.ptr 0 0 3 0 [],.ptr 4096 0 3 0 [],.ptr 8192 0 3 0 [],.int .u64 (q.num.natAbs:Nat),.int .u64 (q.den:Nat),.int .u64 (r.num.natAbs:Nat),.int .u64 (r.den:Nat)]) (os:=jK q r n m) (ps:=kT b q.num.natAbs (if q.den=1 then 0 else q.den) r m fun _=>.rat 0 1) (nx:=8193) [(0,0),(4096,4096),(8192,8192)] hv hk0 (by simp[ia])
  ⟨⟨rfl,aF rfl⟩,⟨rfl,m7 rfl⟩,⟨rfl,m7 rfl⟩,⟨rfl,m7 rfl⟩,⟨rfl,aF rfl⟩,⟨rfl,aF rfl⟩,⟨rfl,aF rfl⟩,⟨rfl,aF rfl⟩,trivial⟩
  ⟨⟨_,_,rfl,rfl,gW rfl fun i _=>aF rfl⟩,⟨_,_,rfl,rfl,gW rfl fun i _=>aF rfl⟩,⟨_,_,rfl,rfl,gW rfl fun i _=>jD rfl (by rw[←hb];exact FR)⟩,trivial⟩) ?_
 have hD0:0<q.den*r.den:=by omega
 have eqc:b=s→sQ s (q.num.natAbs*r.den+r.num.natAbs*q.den) (q.den*r.den)=q+sQ s r.num.natAbs r.den:=fun h=>by rw[hval,h,zZ hd0]
 have gec:b≠s→r.num.natAbs*q.den≤q.num.natAbs*r.den→sQ b (q.num.natAbs*r.den-r.num.natAbs*q.den) (q.den*r.den)=q+sQ s r.num.natAbs r.den:=fun h h'=>by rw[hval,Bw hd0 h h']
 have ltc:b≠s→q.num.natAbs*r.den≤r.num.natAbs*q.den→sQ s (r.num.natAbs*q.den-q.num.natAbs*r.den) (q.den*r.den)=q+sQ s r.num.natAbs r.den:=fun h h'=>by rw[hval,yY hd0 h h']
 clear hval hv hN hR h1 h2 hb
 generalize q+sQ s r.num.natAbs r.den=V at*
 generalize q.num.natAbs*r.den=X at*
 generalize r.num.natAbs*q.den=Y at*
 generalize q.den*r.den=D at*
 have ws:∀{a b:Nat},b≤a→a≤18446744065119617025→IntKind.u64.wrap ((a:Int)-(b:Int))=((a-b:Nat):Int):=fun {a b} h1 h2=>by rw[bA (by omega) (by omega)];omega
 cases b<;>cases s
 ·refine aj.aV hT iK hm 60 cV Jd (by kernel_rfl) ?_
  rw[wx,wy,wd]
  simp only[aa.all,az,beq_iff_eq,Int.toNat_natCast]
  refine⟨⟨by omega,by omega,by omega⟩,by omega,fun hc=>⟨⟨by omega,by omega,by omega⟩,fun s' hv=>ret ?_ hv⟩,fun hc=>⟨by omega,by omega,fun s' hv=>back hv⟩⟩
  have h:=eq_of_beq (gx hc)
  have e:(((X:Int)+(Y:Int)+0)%18446744073709551616).toNat=X+Y:=by omega
  rw[e];exact eqc rfl
 ·refine aj.aV hT iK hm 60 cV Qc (by kernel_rfl) ?_
  rw[wx,wy,wd]
  simp only[aa.all,az,beq_iff_eq,Int.toNat_natCast]
  refine⟨⟨by omega,by omega,by omega⟩,by omega,by omega,fun hc=>?_,fun hc=>?_⟩
  ·have h:=of_decide_eq_true (gx hc)
   have h':Y≤X:=by omega
   rw[ws h' bx]
   refine⟨⟨by omega,by omega,by omega,by omega⟩,fun s' hv=>ret ?_ hv⟩
   rw[Int.toNat_natCast];exact gec (by simp) h'
  ·have h:=of_decide_eq_false (gx hc)
   have h':X≤Y:=by omega
   rw[ws h' by']
   refine⟨by omega,⟨by omega,by omega,by omega⟩,fun s' hv=>ret ?_ hv⟩
   rw[Int.toNat_natCast];exact ltc (by simp) h'
 ·refine aj.aV hT iK hm 60 cV OL (by kernel_rfl) ?_
  rw[wx,wy,wd]
  simp only[aa.all,az,beq_iff_eq,Int.toNat_natCast]
  refine⟨⟨by omega,by omega,by omega⟩,by omega,by omega,fun hc=>?_,fun hc=>?_⟩
  ·have h:=of_decide_eq_true (gx hc)
   have h':Y≤X:=by omega
   rw[ws h' bx]
   refine⟨⟨by omega,by omega,by omega,by omega⟩,fun s' hv=>ret ?_ hv⟩
   rw[Int.toNat_natCast];exact gec (by simp) h'
  ·have h:=of_decide_eq_false (gx hc)
   have h':X≤Y:=by omega
   rw[ws h' by']
   refine⟨by omega,⟨by omega,by omega,by omega⟩,fun s' hv=>ret ?_ hv⟩
   rw[Int.toNat_natCast];exact ltc (by simp) h'
 ·refine aj.aV hT iK hm 60 cV JS (by kernel_rfl) ?_
  rw[wx,wy,wd]
  simp only[aa.all,az,beq_iff_eq,Int.toNat_natCast]
  refine⟨⟨by omega,by omega,by omega⟩,by omega,fun hc=>⟨⟨by omega,by omega,by omega⟩,fun s' hv=>ret ?_ hv⟩,fun hc=>⟨by omega,by omega,fun s' hv=>back hv⟩⟩
  have h:=eq_of_beq (gx hc)
  have e:(((X:Int)+(Y:Int)+0)%18446744073709551616).toNat=X+Y:=by omega
  rw[e];exact eqc rfl
theorem X5 (hn:n<2^42) (hm':m<2^42) (K:Nat) (pre:aA):aB P vp K [.rat q n,.rat r m,.bool s] pre (aG (.rat (q+sQ s r.num.natAbs r.den) (n+m+1)) []):=by
 refine gE fun⟨hq,hr,_⟩=>?_
 have hq:Sz q n:=hq
 have hr:Sz r m:=hr
 refine fZ hT Ye rfl (of_decide_eq_true (by kernel_rfl)) rfl (fun _ c h0=>?_) K pre
 have long:=fun {s':aE}=>DM (s:=s) (s':=s') h0 hq hr hn hm'
 have fin:∀{s':aE} {R:AV},aj P c dI.ntmps jR s' (cR c (Fin T dI R))→aj P c dI.ntmps jR s' (cK (fun s''=>aC P c dI.ntmps (behind (au dI) [1,1]) s'' (cR c (Fin T dI R))) (cR c (Fin T dI R))):=
  fun h=>aj.mono h fun e s' h=>by cases e<;>exact h
 refine aj.hole [1,1] (by kernel_rfl) (aC.chunk 1 (aC.aV hT iK hm 60 cV JY (by kernel_rfl) fun s' hv=>bK ?_))
 show aC P c dI.ntmps [BM] s' _
 refine aC.gY hv (h0 8193) rfl rfl x6 ?_
 refine aj.hole [1,1] (by kernel_rfl) (aC.aV hT iK hm 60 (cV++[7,8,28]) M6 (by kernel_rfl) ⟨show 0<1 by omega,fun s' hv=>bK ?_⟩)
 refine aj.cond (b:=.tmp 28) (x:=Az) (y:=.skip) (ux hv rfl rfl) (fun h1=>?_) (fun h1=>aj.skip (by exact fin (long (fS (ls:=cV) (l:=[7,8,28]) (vs:=fF s) hv rfl rfl))))
 simp only[h1,if_true]at hv
 have hv:=fS (ls:=cV++[7,8]) (l:=[28]) (vs:=fF s++[.int .u64 (q.num.natAbs:Nat),.int .u64 (q.den:Nat)]) hv rfl rfl
 refine aj.gY hv (h0 8193) rfl x6 ?_
 refine aj.hole [1,1] (by kernel_rfl) (aC.aV hT iK hm 60 (cV++[7,8,10,11,35]) WL (by kernel_rfl) ⟨show 0<1 by omega,fun s' hv=>bK ?_⟩)
 refine aj.cond (b:=.tmp 35) (x:=oW) (y:=.skip) (ux hv rfl rfl) (fun h2=>?_) (fun h2=>aj.skip (by exact fin (long (fS (ls:=cV) (l:=[7,8,10,11,35]) (vs:=fF s) hv rfl rfl))))
 simp only[h2,if_true]at hv
 exact Td h0 hq hr hn hm' h1 h2 (fS (ls:=cV++[7,8,10,11]) (l:=[35]) (vs:=fF s++[.int .u64 (q.num.natAbs:Nat),.int .u64 (q.den:Nat),.int .u64 (r.num.natAbs:Nat),.int .u64 (r.den:Nat)]) hv rfl rfl)
  (fun s' h=>by exact fin h) (fun s' h=>by exact h)
end add
end Go.Am.B
