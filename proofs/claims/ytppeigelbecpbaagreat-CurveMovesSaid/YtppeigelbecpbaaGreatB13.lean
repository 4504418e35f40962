/- natural.Div: its contract. -/
import Derived.Test.YtppeigelbecpbaaGreatB12
set_option linter.unusedVariables false
namespace Go.Am.B
open Go Go.Am.N AV
abbrev lN (A B:Nat):AV:=.tuple [.mag (A/B),.mag (if B=0 then 0 else A%B),.int .i64 (if B=0 then 3 else 0)]
theorem abM {n N:Nat}:de n (ay (az N)):=fD fun _ _=>cR
theorem BG {a b:Nat}:cw a b<0↔a<b:=by
 unfold cw
 split
 ·simp_all
 ·split<;>simp_all
theorem bV {k:aH→Prop} {Q:ak→aH→Prop} {s:aH} (h:k s):cV k Q .normal s:=h
theorem Xu {c:Ctx} (h0:c.k0=aZ) {A B:Nat} (hA:nl A<2^40) (hn2:2≤nl B) (hAB:B≤A) {Q:ak→aH→Prop} {s':aH}
  (hv:bf [0,1,4,5,6] s'=some ([.mag A,.mag B,.nil,.nil,.int .i64 0],[]))
  (fin:∀s lq V s',s<32→V=B*2^s→nl V=nl B→2^31≤az V (nl V-1)→lq+nl V=nl A+1→(∃ρ,Le c ρ s' ⟨aB cF (dK lq s (nl A+1) V ((lq:Int)-1)),cu lq (nl A+1) (fun _=>0) (az (A*2^s)),9⟩)→Q .normal s'):
  aE P c dm.ntmps ((before (au dm) l7).drop (2+1)) s' Q:=by
 have hk0:∀{nx:Nat} k x,c.k0 k=some x→k<nx:=iK h0
 have hABn:nl B≤nl A:=gd hAB
 have hB0:B≠0:=fun h=>by subst h;simp[nl]at hn2
 refine aE.chunk 1 (aE.ee hT hH hm 60 (nx:=0) hv hk0 rfl trivial [0,1,9] Zz (by kernel_rfl) (by kernel_rfl) ?_)
 have w1:IntKind.i64.wrap ((nl B:Int)-1)=((nl B-1:Nat):Int):=dD (by omega) (by omega)
 rw[w1]
 simp only[aa.all,ax,Int.toNat_natCast]
 have hlB:=cR (N:=B) (i:=nl B-1)
 refine⟨⟨by omega,by omega⟩,fun s' hv=>bV ?_⟩
 obtain⟨s,hs⟩:∃s,s=32-br (az B (nl B-1)):=⟨_,rfl⟩
 rw[←hs]at hv
 obtain⟨hs32,hnV,hnorm,hVlt⟩:=LC hB0 hs
 rw[List.drop_drop]
 refine aE.chunk 1 (aE.ee hT hH hm 60 (nx:=0) hv hk0 rfl trivial [9,10,11] TA (by kernel_rfl) (by kernel_rfl) ?_)
 simp only[aa.all,ax,Int.toNat_natCast,Nat.add_zero]
 refine⟨⟨by omega,by omega,by omega,by omega,by omega,by omega,abM,by omega⟩,fun s' hv=>bV ?_⟩
 have hV1:(val (nl B+1) fun i=>numOf (ay (az (B*2^s)) i))=B*2^s:=by
  rw[iH,oz]
  exact Nat.lt_of_lt_of_le hVlt (Nat.pow_le_pow_right (by omega) (by omega))
 rw[hV1]at hv
 obtain⟨V,hV⟩:∃V,V=B*2^s:=⟨_,rfl⟩
 rw[←hV]at hv hnV hnorm hVlt
 obtain⟨lq,hlq⟩:∃lq,lq=nl A+1-nl V:=⟨_,rfl⟩
 rw[List.drop_drop]
 refine aE.weak (by kernel_rfl) (cN (vs:=[.int .i64 s,.own 7 1 0 (nl A+1),.mag V]) (ps:=[(7,⟨true,true,1,nl A+1,ay (az (A*2^s))⟩)]) (nx:=8) [(7,8192)] hv h0 rfl
  ⟨⟨rfl,aG rfl⟩,⟨rfl,bY rfl rfl rfl⟩,⟨rfl,aG rfl⟩,trivial⟩ ⟨⟨_,_,rfl,rfl,eC rfl fun j _=>rfl⟩,trivial⟩) ?_
 refine aE.bk hT hH hm 60 cF acq (by kernel_rfl) ?_
 have w2:IntKind.i64.wrap (((nl A+1:Nat):Int)-(nl V:Int))=((lq:Nat):Int):=dD (by omega) (by omega)
 have w3:IntKind.i64.wrap ((lq:Int)-1)=(lq:Int)-1:=wrap_i64 (by omega) (by omega)
 rw[w2]
 simp only[aa.all,ax,Int.toNat_natCast,w3]
 exact⟨by omega,fun s' hv=>fin s lq V s' hs32 hV hnV (by rw[hnV];exact hnorm) (by omega) (cN (vs:=dK lq s (nl A+1) V ((lq:Int)-1)) (ps:=cu lq (nl A+1) (fun _=>0) (az (A*2^s))) (nx:=9) [(7,7),(8,28680)] hv h0 rfl
  ⟨⟨rfl,bY rfl rfl rfl⟩,⟨rfl,aG rfl⟩,⟨rfl,bY rfl rfl rfl⟩,⟨rfl,aG rfl⟩,⟨rfl,aG rfl⟩,⟨rfl,aG rfl⟩,trivial⟩
  ⟨⟨_,_,rfl,rfl,eC rfl fun j _=>rfl⟩,⟨_,_,rfl,rfl,eC rfl fun j _=>rfl⟩,trivial⟩)⟩
theorem Zt {A B V s lq:Nat} (hs:s<32) (hV:V=B*2^s) (hn2:2≤nl B) (hnV:nl V=nl B) (hnorm:2^31≤az V (nl V-1)) (hlq:lq+nl V=nl A+1):A*2^s<2^(32*(nl A+1))∧A*2^s<V*2^(32*lq):=by
 have hS:0<2^s:=Nat.two_pow_pos _
 have hS31:2^s≤2^31:=Nat.pow_le_pow_right (by omega) (by omega)
 have hAl:A<2^(32*nl A):=l8
 have hA2:A*2^s<2^(32*nl A)*2^31:=
  Nat.lt_of_lt_of_le ((Nat.mul_lt_mul_right hS).2 hAl) (Nat.mul_le_mul_left _ hS31)
 have hA3:A*2^s<2^(32*(nl A+1)):=by
  rw[gi];omega
 refine⟨hA3,?_⟩
 have hsp:V=val (nl V-1) (az V)+az V (nl V-1)*2^(32*(nl V-1)):=by
  have:=fk (N:=V)
  obtain⟨k,hk⟩:∃k,nl V=k+1:=⟨nl V-1,by omega⟩
  rw[hk,val]at this
  rw[hk,Nat.add_sub_cancel]
  exact this.symm
 have h2:2^31*2^(32*(nl V-1))≤V:=by
  have:=Nat.mul_le_mul_right (2^(32*(nl V-1))) hnorm
  omega
 have h3:=Nat.mul_le_mul_right (2^(32*lq)) h2
 have e:2^31*2^(32*(nl V-1))*2^(32*lq)=2^(32*nl A)*2^31:=by
  rw[Nat.mul_assoc,←Nat.pow_add,Nat.mul_comm]
  congr 2
  omega
 omega
theorem abv {c:Ctx} (h0:∀k x,c.k0 k=some x→k<9) {A B V s lq:Nat} (hA:nl A<2^40) (hB0:B≠0) (hs:s<32) (hV:V=B*2^s) (hn2:2≤nl B) (hnV:nl V=nl B) (hnorm:2^31≤az V (nl V-1)) (hlq:lq+nl V=nl A+1):
  aq P c dm.ntmps (part (au dm) l7) ⟨aB cF (dK lq s (nl A+1) V ((lq:Int)-1)),cu lq (nl A+1) (fun _=>0) (az (A*2^s)),9⟩
   (cV (fun s'=>aE P c dm.ntmps (behind (au dm) l7) s' (Fin T dm (lN A B))) (Fin T dm (lN A B))):=by
 obtain⟨z1,z2⟩:=Zt (A:=A) hs hV hn2 hnV hnorm hlq
 have hS:0<2^s:=Nat.two_pow_pos _
 refine RY (N:=A*2^s) h0 (by omega) (by omega) (by omega) hnorm (fun i _=>cR) (oz z1) z2 rfl fun q u s' hu hq hsum hlt hv=>bV ?_
 have hR:val (nl A+1) u=A%B*2^s:=by
  have h1:(A*2^s)%V=val (nl A+1) u:=by
   rw[←hsum,Nat.mul_comm,Nat.mul_add_mod];exact Nat.mod_eq_of_lt hlt
  rw[←h1,hV,Nat.mul_mod_mul_right]
 have hQ:val lq q=A/B:=by
  have h1:(A*2^s)/V=val lq q:=by
   rw[←hsum,Nat.mul_comm,Nat.mul_add_div (by omega),Nat.div_eq_of_lt hlt];omega
  rw[←h1,hV,Nat.mul_div_mul_right _ _ hS]
 have hRl:∀i,i<nl (val (nl A+1) u)→u i=az (val (nl A+1) u) i:=fun i hi=>(nE hu (Nat.lt_of_lt_of_le hi (cL.2 (eR hu)))).symm
 refine aE.js (nx:=9) hv h0 (by kernel_rfl) rfl gW ?_
 show aE P c dm.ntmps [jY] _ _
 refine aq.hole [1,0,1] (by kernel_rfl) (aE.bk hT wP hm 60 kK aey (by kernel_rfl) ?_)
 simp only[aa.all,ax,iH]
 refine⟨⟨fD hu,trivial,by omega⟩,fun s' hv=>bV ?_⟩
 refine ahc (lu:=nl A+1) (u:=u) h0 hs (by omega) rfl (cL.2 (eR hu)) hu hRl hv fun w s' hw hval hv=>bV ?_
 refine aE.mono (Q:=Fin T dm (lN A B)) (fun e s' h=>by cases e<;>exact h) ?_
 refine aE.Dx hT fM hm 60 (nx:=9) hv h0 rfl gW VQ (by kernel_rfl) (by kernel_rfl) ?_
 simp only[aa.all,ax,Nat.add_zero,iH]
 have hll:nl (val (nl A+1) u)≤nl A+1:=cL.2 (eR hu)
 refine⟨⟨fD hq,by omega,fD fun i hi=>hw i (by omega),by omega⟩,cT (by rw[hQ]),cT ?_,bt (by simp[hB0]),trivial⟩
 rw[if_neg hB0,hval,hR,Nat.mul_div_cancel _ hS]
theorem abx {n m:Nat} {z y:Nat→Nat} (hz:∀i,i<n→z i<2^32) (hy:∀i,i<m→y i<2^32) (hn:n<2^40) (hm':m<2^40) (K:Nat) (pre:aC):
  aA P sn K [.aj 1 n (ay z),.aj 1 m (ay y)] pre (aI (lN (val n z) (val m y)) []):=by
 refine iL hT WG rfl (of_decide_eq_true (by kernel_rfl)) rfl (fun _ c h0=>?_) K pre
 have hk0:∀{nx:Nat} k x,c.k0 k=some x→k<nx:=iK h0
 have hA:nl (val n z)≤n:=cL.2 (eR hz)
 have hB:nl (val m y)≤m:=cL.2 (eR hy)
 refine aq.hole l7 (by kernel_rfl) (aE.chunk 2 (aE.bk hT hH hm 60 [0,1,4,5,6] aht (by kernel_rfl) ?_))
 simp only[aa.all,ax,iH]
 generalize val n z=A at*
 generalize val m y=B at*
 refine⟨⟨fD hz,by omega,fD hy,by omega⟩,fun s' hv=>bV ?_⟩
 refine aE.chunk 1 (aE.ee hT hH hm 60 (nx:=0) hv hk0 rfl trivial [0,1,4,5,6] aeN (by kernel_rfl) (by kernel_rfl) ?_)
 simp only[aa.all,ax,beq_iff_eq,beq_eq_false_iff_ne,ne_eq,decide_eq_true_eq,decide_eq_false_iff_not,BG]
 have hnl0:nl B=0↔B=0:=⟨fun h=>by
  rcases Nat.eq_zero_or_pos B with h1|h1
  ·exact h1
  ·have:=fo.2 (show B≠0 by omega);omega,fun h=>by subst h;rfl⟩
 refine⟨fun hb s' hv=>?_,fun hb=>⟨⟨by omega,by omega⟩,fun hlt=>⟨by omega,fun s' hv=>?_⟩,fun hge=>⟨fun h1=>?_,fun h1 s' hv=>bV ?_⟩⟩⟩
 ·have hB0:B=0:=hnl0.1 (by omega)
  subst hB0
  refine ey (ey ?_)
  exact fF (us:=[.nil,.nil,.int .i64 3]) (.inr rfl) hv (by kernel_rfl) ⟨by simpa using jG,jG,bt (by simp),trivial⟩
 ·have hB0:B≠0:=fun h=>hb (by rw[hnl0.2 h];rfl)
  refine ey (ey ?_)
  refine fF (us:=[.nil,.mag A,.int .i64 0]) (.inr rfl) hv (by kernel_rfl) ⟨?_,cT ?_,bt (by simp[hB0]),trivial⟩
  ·rw[Nat.div_eq_of_lt hlt];exact jG
  ·rw[if_neg hB0,Nat.mod_eq_of_lt hlt]
 ·have h1':nl B=1:=by omega
  have hB0:B≠0:=fun h=>hb (by rw[hnl0.2 h];rfl)
  have hl0:az B 0=B:=by
   have:=fk (N:=B)
   rw[h1',val,val]at this
   simpa using this
  have hBlt:B<2^32:=by rw[←hl0];exact cR
  have hmod:A%B<2^32:=Nat.lt_trans (Nat.mod_lt _ (by omega)) hBlt
  simp only[Int.toNat_zero,hl0,Int.toNat_natCast]
  have hf:(fun i=>nth [AV.int .u32 ((A%B:Nat):Int)] (.int .u32 0) (i+0))=fun i=>ay (fun i=>if i=0 then A%B else 0) i:=by
   funext i
   cases i with
   |zero=>simp[nth,ay]
   |succ i=>simp[nth,ay]
  rw[hf]
  refine⟨⟨by omega,by omega,by omega,by omega⟩,⟨by omega,fD (fun i hi=>by split<;>omega),by omega⟩,fun s' hv=>ey (ey ?_)⟩
  refine fF (vs:=[.mag A,.mag B,.mag (A/B),.mag (A%B),.int .i64 0]) (os:=[]) (us:=[.mag (A/B),.mag (A%B),.int .i64 0]) (.inr rfl) (cX hv ?_ rfl) (by kernel_rfl) ⟨.refl _,cT (by rw[if_neg hB0]),bt (by simp[hB0]),trivial⟩
  simp[val,nth,numOf]
  rw[←Int.natCast_emod,Int.toNat_natCast]
 have hB0:B≠0:=fun h=>hb (by rw[hnl0.2 h];rfl)
 have hn2:2≤nl B:=by have:=fo.2 hB0;omega
 rw[List.drop_drop]
 refine Xu h0 (by omega) hn2 (by omega) hv fun s lq V s' hs hV hnV hnorm hlq hle=>bV ?_
 exact aq.j0 hle (abv hk0 (by omega) hB0 hs hV hn2 hnV hnorm hlq)
def Ed (A n B m:Nat):cD:=aI (lN A B) [n<2^40,m<2^40]
theorem OQ:∀K args pre r,bB (gm Ed) K args pre=some r→aA P sn K args pre r:=
 bS (sR fun _ _ _ _ K hz hy need=>abx hz hy need.1 need.2 K [])
end Go.Am.B
