/- natural.Div: its contract. -/
import Derived.Test.YtppeigelbecpbaaGreatB12
set_option linter.unusedVariables false
namespace Go.Am.B
open Go Go.Am.N AV
abbrev mc (A B:Nat):AV:=.tuple [.mag (A/B),.mag (if B=0 then 0 else A%B),.int .i64 (if B=0 then 3 else 0)]
theorem ahE {n N:Nat}:dB n (ay (az N)):=fR fun _ _=>de
theorem Bl {a b:Nat}:cA a b<0↔a<b:=by
 unfold cA
 split
 ·simp_all
 ·split<;>simp_all
theorem bY {k:aF→Prop} {Q:aj→aF→Prop} {s:aF} (h:k s):dz k Q .normal s:=h
theorem aji {c:Ctx} (h0:c.k0=aW) {A B:Nat} (hA:nl A<2^40) (hn2:2≤nl B) (hAB:B≤A) {Q:aj→aF→Prop} {s':aF}
  (hv:aX [0,1,4,5,6] s'=some ([.mag A,.mag B,.nil,.nil,.int .i64 0],[]))
  (fin:∀s lq V s',s<32→V=B*2^s→nl V=nl B→2^31≤az V (nl V-1)→lq+nl V=nl A+1→(∃ρ,Le c ρ s' ⟨aA cN (ew lq s (nl A+1) V ((lq:Int)-1)),cz lq (nl A+1) (fun _=>0) (az (A*2^s)),9⟩)→Q .normal s'):
  aD P c dI.ntmps ((before (au dI) mP).drop (2+1)) s' Q:=by
 have hk0:∀{nx:Nat} k x,c.k0 k=some x→k<nx:=jl h0
 have hABn:nl B≤nl A:=gB hAB
 have hB0:B≠0:=fun h=>by subst h;simp[nl]at hn2
 refine aD.chunk 1 (aD.eH hT je hm 60 (nx:=0) hv hk0 rfl trivial [0,1,9] acB (by kernel_rfl) (by kernel_rfl) ?_)
 have w1:IntKind.i64.wrap ((nl B:Int)-1)=((nl B-1:Nat):Int):=ef (by omega) (by omega)
 rw[w1]
 simp only[aa.all,ax,Int.toNat_natCast]
 have hlB:=de (N:=B) (i:=nl B-1)
 refine⟨⟨by omega,by omega⟩,fun s' hv=>bY ?_⟩
 obtain⟨s,hs⟩:∃s,s=32-br (az B (nl B-1)):=⟨_,rfl⟩
 rw[←hs]at hv
 obtain⟨hs32,hnV,hnorm,hVlt⟩:=Ny hB0 hs
 rw[List.drop_drop]
 refine aD.chunk 1 (aD.eH hT je hm 60 (nx:=0) hv hk0 rfl trivial [9,10,11] R4 (by kernel_rfl) (by kernel_rfl) ?_)
 simp only[aa.all,ax,Int.toNat_natCast,Nat.add_zero]
 refine⟨⟨by omega,by omega,by omega,by omega,by omega,by omega,ahE,by omega⟩,fun s' hv=>bY ?_⟩
 have hV1:(val (nl B+1) fun i=>numOf (ay (az (B*2^s)) i))=B*2^s:=by
  rw[jn,oQ]
  exact Nat.lt_of_lt_of_le hVlt (Nat.pow_le_pow_right (by omega) (by omega))
 rw[hV1]at hv
 obtain⟨V,hV⟩:∃V,V=B*2^s:=⟨_,rfl⟩
 rw[←hV]at hv hnV hnorm hVlt
 obtain⟨lq,hlq⟩:∃lq,lq=nl A+1-nl V:=⟨_,rfl⟩
 rw[List.drop_drop]
 refine aD.weak (by kernel_rfl) (cX (vs:=[.int .i64 s,.own 7 1 0 (nl A+1),.mag V]) (ps:=[(7,⟨true,true,1,nl A+1,ay (az (A*2^s))⟩)]) (nx:=8) [(7,8192)] hv h0 rfl
  ⟨⟨rfl,aI rfl⟩,⟨rfl,cw rfl rfl rfl⟩,⟨rfl,aI rfl⟩,trivial⟩ ⟨⟨_,_,rfl,rfl,e9 rfl fun j _=>rfl⟩,trivial⟩) ?_
 refine aD.bf hT je hm 60 cN Xe (by kernel_rfl) ?_
 have w2:IntKind.i64.wrap (((nl A+1:Nat):Int)-(nl V:Int))=((lq:Nat):Int):=ef (by omega) (by omega)
 have w3:IntKind.i64.wrap ((lq:Int)-1)=(lq:Int)-1:=wrap_i64 (by omega) (by omega)
 rw[w2]
 simp only[aa.all,ax,Int.toNat_natCast,w3]
 exact⟨by omega,fun s' hv=>fin s lq V s' hs32 hV hnV (by rw[hnV];exact hnorm) (by omega) (cX (vs:=ew lq s (nl A+1) V ((lq:Int)-1)) (ps:=cz lq (nl A+1) (fun _=>0) (az (A*2^s))) (nx:=9) [(7,7),(8,28680)] hv h0 rfl
  ⟨⟨rfl,cw rfl rfl rfl⟩,⟨rfl,aI rfl⟩,⟨rfl,cw rfl rfl rfl⟩,⟨rfl,aI rfl⟩,⟨rfl,aI rfl⟩,⟨rfl,aI rfl⟩,trivial⟩
  ⟨⟨_,_,rfl,rfl,e9 rfl fun j _=>rfl⟩,⟨_,_,rfl,rfl,e9 rfl fun j _=>rfl⟩,trivial⟩)⟩
theorem aiZ {A B V s lq:Nat} (hs:s<32) (hV:V=B*2^s) (hn2:2≤nl B) (hnV:nl V=nl B) (hnorm:2^31≤az V (nl V-1)) (hlq:lq+nl V=nl A+1):A*2^s<2^(32*(nl A+1))∧A*2^s<V*2^(32*lq):=by
 have hS:0<2^s:=Nat.two_pow_pos _
 have hS31:2^s≤2^31:=Nat.pow_le_pow_right (by omega) (by omega)
 have hAl:A<2^(32*nl A):=mQ
 have hA2:A*2^s<2^(32*nl A)*2^31:=
  Nat.lt_of_lt_of_le ((Nat.mul_lt_mul_right hS).2 hAl) (Nat.mul_le_mul_left _ hS31)
 have hA3:A*2^s<2^(32*(nl A+1)):=by
  rw[gz];omega
 refine⟨hA3,?_⟩
 have hsp:V=val (nl V-1) (az V)+az V (nl V-1)*2^(32*(nl V-1)):=by
  have:=fJ (N:=V)
  obtain⟨k,hk⟩:∃k,nl V=k+1:=⟨nl V-1,by omega⟩
  rw[hk,val]at this
  rw[hk,Nat.add_sub_cancel]
  exact this.symm
 have h2:2^31*2^(32*(nl V-1))≤V:=by
  have:=Nat.mul_le_mul_right (2^(32*(nl V-1))) hnorm
  omega
 have h3:=Nat.mul_le_mul_right (2^(32*lq)) h2
 have e:2^31*2^(32*(nl V-1))*2^(32*lq)=2^(32*nl A)*2^31:=by
  rw[Nat.mul_assoc,←Nat.pow_add,Nat.mul_comm]
  congr 2
  omega
 omega
theorem V8 {c:Ctx} (h0:∀k x,c.k0 k=some x→k<9) {A B V s lq:Nat} (hA:nl A<2^40) (hB0:B≠0) (hs:s<32) (hV:V=B*2^s) (hn2:2≤nl B) (hnV:nl V=nl B) (hnorm:2^31≤az V (nl V-1)) (hlq:lq+nl V=nl A+1):
  aq P c dI.ntmps (part (au dI) mP) ⟨aA cN (ew lq s (nl A+1) V ((lq:Int)-1)),cz lq (nl A+1) (fun _=>0) (az (A*2^s)),9⟩
   (dz (fun s'=>aD P c dI.ntmps (behind (au dI) mP) s' (Fin T dI (mc A B))) (Fin T dI (mc A B))):=by
 obtain⟨z1,z2⟩:=aiZ (A:=A) hs hV hn2 hnV hnorm hlq
 have hS:0<2^s:=Nat.two_pow_pos _
 refine Su (N:=A*2^s) h0 (by omega) (by omega) (by omega) hnorm (fun i _=>de) (oQ z1) z2 rfl fun q u s' hu hq hsum hlt hv=>bY ?_
 have hR:val (nl A+1) u=A%B*2^s:=by
  have h1:(A*2^s)%V=val (nl A+1) u:=by
   rw[←hsum,Nat.mul_comm,Nat.mul_add_mod];exact Nat.mod_eq_of_lt hlt
  rw[←h1,hV,Nat.mul_mod_mul_right]
 have hQ:val lq q=A/B:=by
  have h1:(A*2^s)/V=val lq q:=by
   rw[←hsum,Nat.mul_comm,Nat.mul_add_div (by omega),Nat.div_eq_of_lt hlt];omega
  rw[←h1,hV,Nat.mul_div_mul_right _ _ hS]
 have hRl:∀i,i<nl (val (nl A+1) u)→u i=az (val (nl A+1) u) i:=fun i hi=>(pn hu (Nat.lt_of_lt_of_le hi (cT.2 (fq hu)))).symm
 refine aD.jD (nx:=9) hv h0 (by kernel_rfl) rfl iC ?_
 show aD P c dI.ntmps [kY] _ _
 refine aq.hole [1,0,1] (by kernel_rfl) (aD.bf hT Ax hm 60 lM X6 (by kernel_rfl) ?_)
 simp only[aa.all,ax,jn]
 refine⟨⟨fR hu,trivial,by omega⟩,fun s' hv=>bY ?_⟩
 refine Xy (lu:=nl A+1) (u:=u) h0 hs (by omega) rfl (cT.2 (fq hu)) hu hRl hv fun w s' hw hval hv=>bY ?_
 refine aD.mono (Q:=Fin T dI (mc A B)) (fun e s' h=>by cases e<;>exact h) ?_
 refine aD.DO hT gj hm 60 (nx:=9) hv h0 rfl iC Wg (by kernel_rfl) (by kernel_rfl) ?_
 simp only[aa.all,ax,Nat.add_zero,jn]
 have hll:nl (val (nl A+1) u)≤nl A+1:=cT.2 (fq hu)
 refine⟨⟨fR hq,by omega,fR fun i hi=>hw i (by omega),by omega⟩,dc (by rw[hQ]),dc ?_,bw (by simp[hB0]),trivial⟩
 rw[if_neg hB0,hval,hR,Nat.mul_div_cancel _ hS]
theorem VE {n m:Nat} {z y:Nat→Nat} (hz:∀i,i<n→z i<2^32) (hy:∀i,i<m→y i<2^32) (hn:n<2^40) (hm':m<2^40) (K:Nat) (pre:aC):
  aB P sr K [.ak 1 n (ay z),.ak 1 m (ay y)] pre (aK (mc (val n z) (val m y)) []):=by
 refine jk hT ajS rfl (of_decide_eq_true (by kernel_rfl)) rfl (fun _ c h0=>?_) K pre
 have hk0:∀{nx:Nat} k x,c.k0 k=some x→k<nx:=jl h0
 have hA:nl (val n z)≤n:=cT.2 (fq hz)
 have hB:nl (val m y)≤m:=cT.2 (fq hy)
 refine aq.hole mP (by kernel_rfl) (aD.chunk 2 (aD.bf hT je hm 60 [0,1,4,5,6] ajT (by kernel_rfl) ?_))
 simp only[aa.all,ax,jn]
 generalize val n z=A at*
 generalize val m y=B at*
 refine⟨⟨fR hz,by omega,fR hy,by omega⟩,fun s' hv=>bY ?_⟩
 refine aD.chunk 1 (aD.eH hT je hm 60 (nx:=0) hv hk0 rfl trivial [0,1,4,5,6] Ts (by kernel_rfl) (by kernel_rfl) ?_)
 simp only[aa.all,ax,beq_iff_eq,beq_eq_false_iff_ne,ne_eq,decide_eq_true_eq,decide_eq_false_iff_not,Bl]
 have hnl0:nl B=0↔B=0:=⟨fun h=>by
  rcases Nat.eq_zero_or_pos B with h1|h1
  ·exact h1
  ·have:=fY.2 (show B≠0 by omega);omega,fun h=>by subst h;rfl⟩
 refine⟨fun hb s' hv=>?_,fun hb=>⟨⟨by omega,by omega⟩,fun hlt=>⟨by omega,fun s' hv=>?_⟩,fun hge=>⟨fun h1=>?_,fun h1 s' hv=>bY ?_⟩⟩⟩
 ·have hB0:B=0:=hnl0.1 (by omega)
  subst hB0
  refine eW (eW ?_)
  exact fZ (us:=[.nil,.nil,.int .i64 3]) (.inr rfl) hv (by kernel_rfl) ⟨by simpa using jV,jV,bw (by simp),trivial⟩
 ·have hB0:B≠0:=fun h=>hb (by rw[hnl0.2 h];rfl)
  refine eW (eW ?_)
  refine fZ (us:=[.nil,.mag A,.int .i64 0]) (.inr rfl) hv (by kernel_rfl) ⟨?_,dc ?_,bw (by simp[hB0]),trivial⟩
  ·rw[Nat.div_eq_of_lt hlt];exact jV
  ·rw[if_neg hB0,Nat.mod_eq_of_lt hlt]
 ·have h1':nl B=1:=by omega
  have hB0:B≠0:=fun h=>hb (by rw[hnl0.2 h];rfl)
  have hl0:az B 0=B:=by
   have:=fJ (N:=B)
   rw[h1',val,val]at this
   simpa using this
  have hBlt:B<2^32:=by rw[←hl0];exact de
  have hmod:A%B<2^32:=Nat.lt_trans (Nat.mod_lt _ (by omega)) hBlt
  simp only[Int.toNat_zero,hl0,Int.toNat_natCast]
  have hf:(fun i=>nth [AV.int .u32 ((A%B:Nat):Int)] (.int .u32 0) (i+0))=fun i=>ay (fun i=>if i=0 then A%B else 0) i:=by
   funext i
   cases i with
   |zero=>simp[nth,ay]
   |succ i=>simp[nth,ay]
  rw[hf]
  refine⟨⟨by omega,by omega,by omega,by omega⟩,⟨by omega,fR (fun i hi=>by split<;>omega),by omega⟩,fun s' hv=>eW (eW ?_)⟩
  refine fZ (vs:=[.mag A,.mag B,.mag (A/B),.mag (A%B),.int .i64 0]) (os:=[]) (us:=[.mag (A/B),.mag (A%B),.int .i64 0]) (.inr rfl) (dm hv ?_ rfl) (by kernel_rfl) ⟨.refl _,dc (by rw[if_neg hB0]),bw (by simp[hB0]),trivial⟩
  simp[val,nth,numOf]
  rw[←Int.natCast_emod,Int.toNat_natCast]
 have hB0:B≠0:=fun h=>hb (by rw[hnl0.2 h];rfl)
 have hn2:2≤nl B:=by have:=fY.2 hB0;omega
 rw[List.drop_drop]
 refine aji h0 (by omega) hn2 (by omega) hv fun s lq V s' hs hV hnV hnorm hlq hle=>bY ?_
 exact aq.kg hle (V8 hk0 (by omega) hB0 hs hV hn2 hnV hnorm hlq)
def HX (A n B m:Nat):cJ:=aK (mc A B) [n<2^40,m<2^40]
theorem OT:∀K args pre r,bC (gP HX) K args pre=some r→aB P sr K args pre r:=
 bV (r4 fun _ _ _ _ K hz hy need=>VE hz hy need.1 need.2 K [])
end Go.Am.B
