/- natural.Div: its contract. -/
import Derived.Test.YtppeigelbecpbaaGreatB12
set_option linter.unusedVariables false
namespace Go.Am.B
open Go Go.Am.N AV
abbrev kB (A B:Nat):AV:=.tuple [.mag (A/B),.mag (if B=0 then 0 else A%B),.int .i64 (if B=0 then 3 else 0)]
theorem agk {n N:Nat}:cT n (au (ay N)):=fc fun _ _=>cM
theorem Ba {a b:Nat}:ct a b<0↔a<b:=by
 unfold ct
 split
 ·simp_all
 ·split<;>simp_all
theorem bX {k:aE→Prop} {Q:aj→aE→Prop} {s:aE} (h:k s):cX k Q .normal s:=h
theorem SX {c:Ctx} (h0:c.k0=aY) {A B:Nat} (hA:nl A<2^40) (hn2:2≤nl B) (hAB:B≤A) {Q:aj→aE→Prop} {s':aE}
  (hv:aU [0,1,4,5,6] s'=some ([.mag A,.mag B,.nil,.nil,.int .i64 0],[]))
  (fin:∀s lq V s',s<32→V=B*2^s→nl V=nl B→2^31≤ay V (nl V-1)→lq+nl V=nl A+1→(∃ρ,Le c ρ s' ⟨aB cH (dJ lq s (nl A+1) V ((lq:Int)-1)),cu lq (nl A+1) (fun _=>0) (ay (A*2^s)),9⟩)→Q .normal s'):
  aC P c dg.ntmps ((before (aq dg) kA).drop (2+1)) s' Q:=by
 have hk0:∀{nx:Nat} k x,c.k0 k=some x→k<nx:=iJ h0
 have hABn:nl B≤nl A:=fO hAB
 have hB0:B≠0:=fun h=>by subst h;simp[nl]at hn2
 refine aC.chunk 1 (aC.dS hT gJ hm 60 (nx:=0) hv hk0 rfl trivial [0,1,9] Y5 (by kernel_rfl) (by kernel_rfl) ?_)
 have w1:IntKind.i64.wrap ((nl B:Int)-1)=((nl B-1:Nat):Int):=dx (by omega) (by omega)
 rw[w1]
 simp only[aa.all,ax,Int.toNat_natCast]
 have hlB:=cM (N:=B) (i:=nl B-1)
 refine⟨⟨by omega,by omega⟩,fun s' hv=>bX ?_⟩
 obtain⟨s,hs⟩:∃s,s=32-bp (ay B (nl B-1)):=⟨_,rfl⟩
 rw[←hs]at hv
 obtain⟨hs32,hnV,hnorm,hVlt⟩:=Lm hB0 hs
 rw[List.drop_drop]
 refine aC.chunk 1 (aC.dS hT gJ hm 60 (nx:=0) hv hk0 rfl trivial [9,10,11] aa6 (by kernel_rfl) (by kernel_rfl) ?_)
 simp only[aa.all,ax,Int.toNat_natCast,Nat.add_zero]
 refine⟨⟨by omega,by omega,by omega,by omega,by omega,by omega,agk,by omega⟩,fun s' hv=>bX ?_⟩
 have hV1:(val (nl B+1) fun i=>numOf (au (ay (B*2^s)) i))=B*2^s:=by
  rw[ia,mA]
  exact Nat.lt_of_lt_of_le hVlt (Nat.pow_le_pow_right (by omega) (by omega))
 rw[hV1]at hv
 obtain⟨V,hV⟩:∃V,V=B*2^s:=⟨_,rfl⟩
 rw[←hV]at hv hnV hnorm hVlt
 obtain⟨lq,hlq⟩:∃lq,lq=nl A+1-nl V:=⟨_,rfl⟩
 rw[List.drop_drop]
 refine aC.weak (by kernel_rfl) (cK (vs:=[.int .i64 s,.own 7 1 0 (nl A+1),.mag V]) (ps:=[(7,⟨true,true,1,nl A+1,au (ay (A*2^s))⟩)]) (nx:=8) [(7,8192)] hv h0 rfl
  ⟨⟨rfl,aH rfl⟩,⟨rfl,bR rfl rfl rfl⟩,⟨rfl,aH rfl⟩,trivial⟩ ⟨⟨_,_,rfl,rfl,eo rfl fun j _=>rfl⟩,trivial⟩) ?_
 refine aC.bf hT gJ hm 60 cH abz (by kernel_rfl) ?_
 have w2:IntKind.i64.wrap (((nl A+1:Nat):Int)-(nl V:Int))=((lq:Nat):Int):=dx (by omega) (by omega)
 have w3:IntKind.i64.wrap ((lq:Int)-1)=(lq:Int)-1:=wrap_i64 (by omega) (by omega)
 rw[w2]
 simp only[aa.all,ax,Int.toNat_natCast,w3]
 exact⟨by omega,fun s' hv=>fin s lq V s' hs32 hV hnV (by rw[hnV];exact hnorm) (by omega) (cK (vs:=dJ lq s (nl A+1) V ((lq:Int)-1)) (ps:=cu lq (nl A+1) (fun _=>0) (ay (A*2^s))) (nx:=9) [(7,7),(8,28680)] hv h0 rfl
  ⟨⟨rfl,bR rfl rfl rfl⟩,⟨rfl,aH rfl⟩,⟨rfl,bR rfl rfl rfl⟩,⟨rfl,aH rfl⟩,⟨rfl,aH rfl⟩,⟨rfl,aH rfl⟩,trivial⟩
  ⟨⟨_,_,rfl,rfl,eo rfl fun j _=>rfl⟩,⟨_,_,rfl,rfl,eo rfl fun j _=>rfl⟩,trivial⟩)⟩
theorem Z3 {A B V s lq:Nat} (hs:s<32) (hV:V=B*2^s) (hn2:2≤nl B) (hnV:nl V=nl B) (hnorm:2^31≤ay V (nl V-1)) (hlq:lq+nl V=nl A+1):A*2^s<2^(32*(nl A+1))∧A*2^s<V*2^(32*lq):=by
 have hS:0<2^s:=Nat.two_pow_pos _
 have hS31:2^s≤2^31:=Nat.pow_le_pow_right (by omega) (by omega)
 have hAl:A<2^(32*nl A):=kG
 have hA2:A*2^s<2^(32*nl A)*2^31:=
  Nat.lt_of_lt_of_le ((Nat.mul_lt_mul_right hS).2 hAl) (Nat.mul_le_mul_left _ hS31)
 have hA3:A*2^s<2^(32*(nl A+1)):=by
  rw[fQ];omega
 refine⟨hA3,?_⟩
 have hsp:V=val (nl V-1) (ay V)+ay V (nl V-1)*2^(32*(nl V-1)):=by
  have:=eR (N:=V)
  obtain⟨k,hk⟩:∃k,nl V=k+1:=⟨nl V-1,by omega⟩
  rw[hk,val]at this
  rw[hk,Nat.add_sub_cancel]
  exact this.symm
 have h2:2^31*2^(32*(nl V-1))≤V:=by
  have:=Nat.mul_le_mul_right (2^(32*(nl V-1))) hnorm
  omega
 have h3:=Nat.mul_le_mul_right (2^(32*lq)) h2
 have e:2^31*2^(32*(nl V-1))*2^(32*lq)=2^(32*nl A)*2^31:=by
  rw[Nat.mul_assoc,←Nat.pow_add,Nat.mul_comm]
  congr 2
  omega
 omega
theorem TZ {c:Ctx} (h0:∀k x,c.k0 k=some x→k<9) {A B V s lq:Nat} (hA:nl A<2^40) (hB0:B≠0) (hs:s<32) (hV:V=B*2^s) (hn2:2≤nl B) (hnV:nl V=nl B) (hnorm:2^31≤ay V (nl V-1)) (hlq:lq+nl V=nl A+1):
  ak P c dg.ntmps (part (aq dg) kA) ⟨aB cH (dJ lq s (nl A+1) V ((lq:Int)-1)),cu lq (nl A+1) (fun _=>0) (ay (A*2^s)),9⟩
   (cX (fun s'=>aC P c dg.ntmps (behind (aq dg) kA) s' (Fin T dg (kB A B))) (Fin T dg (kB A B))):=by
 obtain⟨z1,z2⟩:=Z3 (A:=A) hs hV hn2 hnV hnorm hlq
 have hS:0<2^s:=Nat.two_pow_pos _
 refine OT (N:=A*2^s) h0 (by omega) (by omega) (by omega) hnorm (fun i _=>cM) (mA z1) z2 rfl fun q u s' hu hq hsum hlt hv=>bX ?_
 have hR:val (nl A+1) u=A%B*2^s:=by
  have h1:(A*2^s)%V=val (nl A+1) u:=by
   rw[←hsum,Nat.mul_comm,Nat.mul_add_mod];exact Nat.mod_eq_of_lt hlt
  rw[←h1,hV,Nat.mul_mod_mul_right]
 have hQ:val lq q=A/B:=by
  have h1:(A*2^s)/V=val lq q:=by
   rw[←hsum,Nat.mul_comm,Nat.mul_add_div (by omega),Nat.div_eq_of_lt hlt];omega
  rw[←h1,hV,Nat.mul_div_mul_right _ _ hS]
 have hRl:∀i,i<nl (val (nl A+1) u)→u i=ay (val (nl A+1) u) i:=fun i hi=>(nI hu (Nat.lt_of_lt_of_le hi (cI.2 (ey hu)))).symm
 refine aC.iQ (nx:=9) hv h0 (by kernel_rfl) rfl gI ?_
 show aC P c dg.ntmps [jD] _ _
 refine ak.hole [1,0,1] (by kernel_rfl) (aC.bf hT tv hm 60 jO acZ (by kernel_rfl) ?_)
 simp only[aa.all,ax,ia]
 refine⟨⟨fc hu,trivial,by omega⟩,fun s' hv=>bX ?_⟩
 refine QL (lu:=nl A+1) (u:=u) h0 hs (by omega) rfl (cI.2 (ey hu)) hu hRl hv fun w s' hw hval hv=>bX ?_
 refine aC.mono (Q:=Fin T dg (kB A B)) (fun e s' h=>by cases e<;>exact h) ?_
 refine aC.AI hT fu hm 60 (nx:=9) hv h0 rfl gI ZU (by kernel_rfl) (by kernel_rfl) ?_
 simp only[aa.all,ax,Nat.add_zero,ia]
 have hll:nl (val (nl A+1) u)≤nl A+1:=cI.2 (ey hu)
 refine⟨⟨fc hq,by omega,fc fun i hi=>hw i (by omega),by omega⟩,de (by rw[hQ]),de ?_,br (by simp[hB0]),trivial⟩
 rw[if_neg hB0,hval,hR,Nat.mul_div_cancel _ hS]
theorem Vt {n m:Nat} {z y:Nat→Nat} (hz:∀i,i<n→z i<2^32) (hy:∀i,i<m→y i<2^32) (hn:n<2^40) (hm':m<2^40) (K:Nat) (pre:aA):
  az P rR K [.ag 1 n (au z),.ag 1 m (au y)] pre (aF (kB (val n z) (val m y)) []):=by
 refine iG hT aaa rfl (of_decide_eq_true (by kernel_rfl)) rfl (fun _ c h0=>?_) K pre
 have hk0:∀{nx:Nat} k x,c.k0 k=some x→k<nx:=iJ h0
 have hA:nl (val n z)≤n:=cI.2 (ey hz)
 have hB:nl (val m y)≤m:=cI.2 (ey hy)
 refine ak.hole kA (by kernel_rfl) (aC.chunk 2 (aC.bf hT gJ hm 60 [0,1,4,5,6] acs (by kernel_rfl) ?_))
 simp only[aa.all,ax,ia]
 generalize val n z=A at*
 generalize val m y=B at*
 refine⟨⟨fc hz,by omega,fc hy,by omega⟩,fun s' hv=>bX ?_⟩
 refine aC.chunk 1 (aC.dS hT gJ hm 60 (nx:=0) hv hk0 rfl trivial [0,1,4,5,6] OZ (by kernel_rfl) (by kernel_rfl) ?_)
 simp only[aa.all,ax,beq_iff_eq,beq_eq_false_iff_ne,ne_eq,decide_eq_true_eq,decide_eq_false_iff_not,Ba]
 have hnl0:nl B=0↔B=0:=⟨fun h=>by
  rcases Nat.eq_zero_or_pos B with h1|h1
  ·exact h1
  ·have:=eV.2 (show B≠0 by omega);omega,fun h=>by subst h;rfl⟩
 refine⟨fun hb s' hv=>?_,fun hb=>⟨⟨by omega,by omega⟩,fun hlt=>⟨by omega,fun s' hv=>?_⟩,fun hge=>⟨fun h1=>?_,fun h1 s' hv=>bX ?_⟩⟩⟩
 ·have hB0:B=0:=hnl0.1 (by omega)
  subst hB0
  refine ee (ee ?_)
  exact fk (us:=[.nil,.nil,.int .i64 3]) (.inr rfl) hv (by kernel_rfl) ⟨by simpa using jf,jf,br (by simp),trivial⟩
 ·have hB0:B≠0:=fun h=>hb (by rw[hnl0.2 h];rfl)
  refine ee (ee ?_)
  refine fk (us:=[.nil,.mag A,.int .i64 0]) (.inr rfl) hv (by kernel_rfl) ⟨?_,de ?_,br (by simp[hB0]),trivial⟩
  ·rw[Nat.div_eq_of_lt hlt];exact jf
  ·rw[if_neg hB0,Nat.mod_eq_of_lt hlt]
 ·have h1':nl B=1:=by omega
  have hB0:B≠0:=fun h=>hb (by rw[hnl0.2 h];rfl)
  have hl0:ay B 0=B:=by
   have:=eR (N:=B)
   rw[h1',val,val]at this
   simpa using this
  have hBlt:B<2^32:=by rw[←hl0];exact cM
  have hmod:A%B<2^32:=Nat.lt_trans (Nat.mod_lt _ (by omega)) hBlt
  simp only[Int.toNat_zero,hl0,Int.toNat_natCast]
  have hf:(fun i=>nth [AV.int .u32 ((A%B:Nat):Int)] (.int .u32 0) (i+0))=fun i=>au (fun i=>if i=0 then A%B else 0) i:=by
   funext i
   cases i with
   |zero=>simp[nth,au]
   |succ i=>simp[nth,au]
  rw[hf]
  refine⟨⟨by omega,by omega,by omega,by omega⟩,⟨by omega,fc (fun i hi=>by split<;>omega),by omega⟩,fun s' hv=>ee (ee ?_)⟩
  refine fk (vs:=[.mag A,.mag B,.mag (A/B),.mag (A%B),.int .i64 0]) (os:=[]) (us:=[.mag (A/B),.mag (A%B),.int .i64 0]) (.inr rfl) (cO hv ?_ rfl) (by kernel_rfl) ⟨.refl _,de (by rw[if_neg hB0]),br (by simp[hB0]),trivial⟩
  simp[val,nth,numOf]
  rw[←Int.natCast_emod,Int.toNat_natCast]
 have hB0:B≠0:=fun h=>hb (by rw[hnl0.2 h];rfl)
 have hn2:2≤nl B:=by have:=eV.2 hB0;omega
 rw[List.drop_drop]
 refine SX h0 (by omega) hn2 (by omega) hv fun s lq V s' hs hV hnV hnorm hlq hle=>bX ?_
 exact ak.j0 hle (TZ hk0 (by omega) hB0 hs hV hn2 hnV hnorm hlq)
def E3 (A n B m:Nat):cJ:=aF (kB A B) [n<2^40,m<2^40]
theorem Lw:∀K args pre r,bA (fT E3) K args pre=some r→az P rR K args pre r:=
 bS (qP fun _ _ _ _ K hz hy need=>Vt hz hy need.1 need.2 K [])
end Go.Am.B
