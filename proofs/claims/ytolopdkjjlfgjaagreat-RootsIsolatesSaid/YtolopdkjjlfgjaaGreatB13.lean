/- natural.Div: its contract. -/
import Derived.Test.YtolopdkjjlfgjaaGreatB12
set_option linter.unusedVariables false
namespace Go.Am.B
open Go Go.Am.N AV Proofs.Tryz IntKind
abbrev oL (A B:Nat):AV:=.tuple [.mag (A/B),.mag (if B=0 then 0 else A%B),.int .i64 (if B=0 then 3 else 0)]
theorem US {n N:Nat}:fe n (aA (aD N)):=iu fun _ _=>eO
theorem Cv {a b:Nat}:dJ a b<0↔a<b:=by
 unfold dJ
 split
 ·simp_all
 ·split<;>simp_all
theorem cW {k:aK->Prop} {Q:aq->aK->Prop} {s:aK} (h:k s):fF k Q .normal s:=h
theorem aaK {c:Ctx} (h0:c.k0=bE) {A B:Nat} (hA:nl A<2^40) (hn2:2<=nl B) (hAB:B<=A) {Q:aq->aK->Prop} {s':aK}
  (hv:bA [0,1,4,5,6] s'=some ([.mag A,.mag B,.nil,.nil,.int .i64 0],[]))
  (fin:∀s lq V s',s<32->V=B*2^s->nl V=nl B->2^31<=aD V (nl V-1)->lq+nl V=nl A+1->(∃ρ,Le c ρ s' ⟨aB ej (fS lq s (nl A+1) V ((lq:Int)-1)),dK lq (nl A+1) (fun _=>0) (aD (A*2^s)),9⟩)->Q .normal s'):
  aF P c f168.ntmps ((before (aI f168) oC).drop (2+1)) s' Q:=by
 have hk0:∀{nx:Nat} k x,c.k0 k=some x->k<nx:=kr h0
 have hABn:nl B<=nl A:=jd hAB
 have hB0:B≠0:=fun h=>by subst h;simp[nl]at hn2
 refine aF.chunk 1 (aF.gh hT j0 hm 60 (nx:=0) hv hk0 rfl trivial [0,1,9] aaq ah ah ?_)
 have w1:i64.wrap ((nl B:Int)-1)=((nl B-1:Nat):Int):=fR aa aa
 rw[w1]
 simp only[af.all,az,bG]
 have hlB:=eO (N:=B) (i:=nl B-1)
 refine⟨⟨aa,aa⟩,fun s' hv=>cW ?_⟩
 obtain⟨s,hs⟩:∃s,s=32-bX (aD B (nl B-1)):=⟨_,rfl⟩
 rw[<-hs]at hv
 obtain⟨hs32,hnV,hnorm,hVlt⟩:=IB hB0 hs
 rw[List.drop_drop]
 refine aF.chunk 1 (aF.gh hT j0 hm 60 (nx:=0) hv hk0 rfl trivial [9,10,11] RC ah ah ?_)
 simp only[af.all,az,bG,Nat.add_zero]
 refine⟨⟨aa,aa,aa,aa,aa,aa,US,aa⟩,fun s' hv=>cW ?_⟩
 have hV1:(val (nl B+1) fun i=>numOf (aA (aD (B*2^s)) i))=B*2^s:=by
  rw[kq,qm]
  exact Nat.lt_of_lt_of_le hVlt (Nat.pow_le_pow_right aa aa)
 rw[hV1]at hv
 obtain⟨V,hV⟩:∃V,V=B*2^s:=⟨_,rfl⟩
 rw[<-hV]at hv hnV hnorm hVlt
 obtain⟨lq,hlq⟩:∃lq,lq=nl A+1-nl V:=⟨_,rfl⟩
 rw[List.drop_drop]
 refine aF.weak ah (eA (vs:=[.int .i64 s,.own 7 1 0 (nl A+1),.mag V]) (ps:=[(7,⟨true,true,1,nl A+1,aA (aD (A*2^s))⟩)]) (nx:=8) [(7,8192)] hv h0 rfl
  ⟨aP,⟨rfl,ec rfl rfl rfl⟩,aP,trivial⟩ ⟨⟨_,_,rfl,rfl,gC rfl fun j _=>rfl⟩,trivial⟩) ?_
 refine aF.bL hT j0 hm 60 ej aaa ah ?_
 have w2:i64.wrap (((nl A+1:Nat):Int)-(nl V:Int))=((lq:Nat):Int):=fR aa aa
 have w3:i64.wrap ((lq:Int)-1)=(lq:Int)-1:=wrap_i64 aa aa
 rw[w2]
 simp only[af.all,az,bG,w3]
 exact⟨aa,fun s' hv=>fin s lq V s' hs32 hV hnV (by rw[hnV];exact hnorm) aa (eA (vs:=fS lq s (nl A+1) V ((lq:Int)-1)) (ps:=dK lq (nl A+1) (fun _=>0) (aD (A*2^s))) (nx:=9) [(7,7),(8,28680)] hv h0 rfl
  ⟨⟨rfl,ec rfl rfl rfl⟩,aP,⟨rfl,ec rfl rfl rfl⟩,aP,aP,aP,trivial⟩
  ⟨⟨_,_,rfl,rfl,gC rfl fun j _=>rfl⟩,⟨_,_,rfl,rfl,gC rfl fun j _=>rfl⟩,trivial⟩)⟩
theorem agB {A B V s lq:Nat} (hs:s<32) (hV:V=B*2^s) (hn2:2<=nl B) (hnV:nl V=nl B) (hnorm:2^31<=aD V (nl V-1)) (hlq:lq+nl V=nl A+1):A*2^s<2^(32*(nl A+1))/\A*2^s<V*2^(32*lq):=by
 have hS:0<2^s:=Nat.two_pow_pos _
 have hS31:2^s<=2^31:=Nat.pow_le_pow_right aa aa
 have hAl:A<2^(32*nl A):=oB
 have hA2:A*2^s<2^(32*nl A)*2^31:=
  Nat.lt_of_lt_of_le ((Nat.mul_lt_mul_right hS).2 hAl) (Nat.mul_le_mul_left _ hS31)
 have hA3:A*2^s<2^(32*(nl A+1)):=by
  rw[je];omega
 refine⟨hA3,?_⟩
 have hsp:V=val (nl V-1) (aD V)+aD V (nl V-1)*2^(32*(nl V-1)):=by
  have:=ic (N:=V)
  obtain⟨k,hk⟩:∃k,nl V=k+1:=⟨nl V-1,aa⟩
  rw[hk,val]at this
  rw[hk,Nat.add_sub_cancel]
  exact this.symm
 have h2:2^31*2^(32*(nl V-1))<=V:=by
  have:=Nat.mul_le_mul_right (2^(32*(nl V-1))) hnorm
  omega
 have h3:=Nat.mul_le_mul_right (2^(32*lq)) h2
 have e:2^31*2^(32*(nl V-1))*2^(32*lq)=2^(32*nl A)*2^31:=by
  rw[Nat.mul_assoc,<-Nat.pow_add,Nat.mul_comm]
  congr 2
  omega
 omega
theorem aaG {c:Ctx} (h0:∀k x,c.k0 k=some x->k<9) {A B V s lq:Nat} (hA:nl A<2^40) (hB0:B≠0) (hs:s<32) (hV:V=B*2^s) (hn2:2<=nl B) (hnV:nl V=nl B) (hnorm:2^31<=aD V (nl V-1)) (hlq:lq+nl V=nl A+1):
  au P c f168.ntmps (part (aI f168) oC) ⟨aB ej (fS lq s (nl A+1) V ((lq:Int)-1)),dK lq (nl A+1) (fun _=>0) (aD (A*2^s)),9⟩
   (fF (fun s'=>aF P c f168.ntmps (behind (aI f168) oC) s' (Fin T f168 (oL A B))) (Fin T f168 (oL A B))):=by
 obtain⟨z1,z2⟩:=agB (A:=A) hs hV hn2 hnV hnorm hlq
 have hS:0<2^s:=Nat.two_pow_pos _
 refine af4 (N:=A*2^s) h0 aa aa aa hnorm (fun i _=>eO) (qm z1) z2 rfl fun q u s' hu hq hsum hlt hv=>cW ?_
 have hR:val (nl A+1) u=A%B*2^s:=by
  have h1:(A*2^s)%V=val (nl A+1) u:=by
   rw[<-hsum,Nat.mul_comm,Nat.mul_add_mod];exact Nat.mod_eq_of_lt hlt
  rw[<-h1,hV,Nat.mul_mod_mul_right]
 have hQ:val lq q=A/B:=by
  have h1:(A*2^s)/V=val lq q:=by
   rw[<-hsum,Nat.mul_comm,Nat.mul_add_div aa,Nat.div_eq_of_lt hlt];omega
  rw[<-h1,hV,Nat.mul_div_mul_right _ _ hS]
 have hRl:∀i,i<nl (val (nl A+1) u)->u i=aD (val (nl A+1) u) i:=fun i hi=>(qe hu (Nat.lt_of_lt_of_le hi (eo.2 (gV hu)))).symm
 refine aF.kZ (nx:=9) hv h0 ah rfl jJ ?_
 show aF P c f168.ntmps [mG] _ _
 refine au.hole [1,0,1] ah (aF.bL hT yR hm 60 m7 agj ah ?_)
 simp only[af.all,az,kq]
 refine⟨⟨iu hu,trivial,aa⟩,fun s' hv=>cW ?_⟩
 refine agd (lu:=nl A+1) (u:=u) h0 hs aa rfl (eo.2 (gV hu)) hu hRl hv fun w s' hw hval hv=>cW ?_
 refine aF.mono (Q:=Fin T f168 (oL A B)) (fun e s' h=>by cases e<;>exact h) ?_
 refine aF.Dc hT iM hm 60 (nx:=9) hv h0 rfl jJ Rm ah ah ?_
 simp only[af.all,az,Nat.add_zero,kq]
 have hll:nl (val (nl A+1) u)<=nl A+1:=eo.2 (gV hu)
 refine⟨⟨iu hq,aa,iu fun i hi=>hw i aa,aa⟩,eU (by rw[hQ]),eU ?_,cq (by simp[hB0]),trivial⟩
 rw[if_neg hB0,hval,hR,Nat.mul_div_cancel _ hS]
theorem Sj {n m:Nat} {z y:Nat->Nat} (hz:∀i,i<n->z i<2^32) (hy:∀i,i<m->y i<2^32) (hn:n<2^40) (hm':m<2^40) (K:Nat) (pre:aE):
  aS P 168 K [.ak 1 n (aA z),.ak 1 m (aA y)] pre (aM (oL (val n z) (val m y)) []):=by
 refine kI hT UU rfl aZ rfl (fun _ c h0=>?_) K pre
 have hk0:∀{nx:Nat} k x,c.k0 k=some x->k<nx:=kr h0
 have hA:nl (val n z)<=n:=eo.2 (gV hz)
 have hB:nl (val m y)<=m:=eo.2 (gV hy)
 refine au.hole oC ah (aF.chunk 2 (aF.bL hT j0 hm 60 [0,1,4,5,6] QI ah ?_))
 simp only[af.all,az,kq]
 generalize val n z=A at*
 generalize val m y=B at*
 refine⟨⟨iu hz,aa,iu hy,aa⟩,fun s' hv=>cW ?_⟩
 refine aF.chunk 1 (aF.gh hT j0 hm 60 (nx:=0) hv hk0 rfl trivial [0,1,4,5,6] SH ah ah ?_)
 simp only[af.all,az,beq_iff_eq,beq_eq_false_iff_ne,ne_eq,bD,bI,Cv]
 have hnl0:nl B=0↔B=0:=⟨fun h=>by
  rcases Nat.eq_zero_or_pos B with h1|h1
  ·exact h1
  ·have:=iB.2 (show B≠0 by omega);omega,fun h=>by subst h;rfl⟩
 refine⟨fun hb s' hv=>?_,fun hb=>⟨⟨aa,aa⟩,fun hlt=>⟨aa,fun s' hv=>?_⟩,fun hge=>⟨fun h1=>?_,fun h1 s' hv=>cW ?_⟩⟩⟩
 ·have hB0:B=0:=hnl0.1 aa
  subst hB0
  refine gr (gr ?_)
  exact iG (us:=[.nil,.nil,.int .i64 3]) (.inr rfl) hv ah ⟨by simpa using lT,lT,cq (by simp),trivial⟩
 ·have hB0:B≠0:=fun h=>hb (by rw[hnl0.2 h];rfl)
  refine gr (gr ?_)
  refine iG (us:=[.nil,.mag A,.int .i64 0]) (.inr rfl) hv ah ⟨?_,eU ?_,cq (by simp[hB0]),trivial⟩
  ·rw[Nat.div_eq_of_lt hlt];exact lT
  ·rw[if_neg hB0,Nat.mod_eq_of_lt hlt]
 ·have h1':nl B=1:=aa
  have hB0:B≠0:=fun h=>hb (by rw[hnl0.2 h];rfl)
  have hl0:aD B 0=B:=by
   have:=ic (N:=B)
   rw[h1',val,val]at this
   simpa using this
  have hBlt:B<2^32:=by rw[<-hl0];exact eO
  have hmod:A%B<2^32:=Nat.lt_trans (Nat.mod_lt _ aa) hBlt
  simp only[Int.toNat_zero,hl0,bG]
  have hf:(fun i=>nth [AV.int .u32 ((A%B:Nat):Int)] (.int .u32 0) (i+0))=fun i=>aA (fun i=>if i=0 then A%B else 0) i:=by
   funext i
   cases i with
   |zero=>simp[nth,aA]
   |succ i=>simp[nth,aA]
  rw[hf]
  refine⟨⟨aa,aa,aa,aa⟩,⟨aa,iu (fun i hi=>by split<;>omega),aa⟩,fun s' hv=>gr (gr ?_)⟩
  refine iG (vs:=[.mag A,.mag B,.mag (A/B),.mag (A%B),.int .i64 0]) (os:=[]) (us:=[.mag (A/B),.mag (A%B),.int .i64 0]) (.inr rfl) (eP hv ?_ rfl) ah ⟨.refl _,eU (by rw[if_neg hB0]),cq (by simp[hB0]),trivial⟩
  simp[val,nth,numOf]
  rw[<-Int.natCast_emod,bG]
 have hB0:B≠0:=fun h=>hb (by rw[hnl0.2 h];rfl)
 have hn2:2<=nl B:=by have:=iB.2 hB0;omega
 rw[List.drop_drop]
 refine aaK h0 aa hn2 aa hv fun s lq V s' hs hV hnV hnorm hlq hle=>cW ?_
 exact au.nB hle (aaG hk0 aa hB0 hs hV hn2 hnV hnorm hlq)
def Ev (A n B m:Nat):dZ:=aM (oL A B) [n<2^40,m<2^40]
theorem Oy:bf P (cw (jy Ev)) 168:=
 dc (wg fun _ _ _ _ K hz hy need=>Sj hz hy need.1 need.2 K [])
end Go.Am.B
