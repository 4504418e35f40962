/- natural.Div: its contract. -/
import Derived.Test.YtolopdkjjlfgjaaGreatB12
set_option linter.unusedVariables false
namespace Go.Am.B
open Go Go.Am.N AV Proofs.Tryz IntKind
abbrev oZ (A B:Nat):AV:=.tuple [.mag (A/B),.mag (if B=0 then 0 else A%B),.int .i64 (if B=0 then 3 else 0)]
theorem abb {n N:Nat}:fu n (aD (aE N)):=iJ fun _ _=>eP
theorem Ar {a b:Nat}:dG a b<0↔a<b:=by
 unfold dG
 split
 ·simp_all
 ·split<;>simp_all
theorem cU {k:aL->Prop} {Q:au->aL->Prop} {s:aL} (h:k s):fM k Q .normal s:=h
theorem VQ {c:Ctx} (h0:c.k0=bz) {A B:Nat} (hA:nl A<2^40) (hn2:2<=nl B) (hAB:B<=A) {Q:au->aL->Prop} {s':aL}
  (hv:bp [0,1,4,5,6] s'=some ([.mag A,.mag B,.nil,.nil,.int .i64 0],[]))
  (fin:∀s lq V s',s<32->V=B*2^s->nl V=nl B->2^31<=aE V (nl V-1)->lq+nl V=nl A+1->(∃ρ,Le c ρ s' ⟨aH dY (gb lq s (nl A+1) V ((lq:Int)-1)),dH lq (nl A+1) (fun _=>0) (aE (A*2^s)),9⟩)->Q .normal s'):
  aI P c f168.ntmps ((before (aJ f168) o6).drop (2+1)) s' Q:=by
 have hk0:∀{nx:Nat} k x,c.k0 k=some x->k<nx:=lF h0
 have hABn:nl B<=nl A:=jt hAB
 have hB0:B≠0:=fun h=>by subst h;simp[nl]at hn2
 refine aI.chunk 1 (aI.gC hT kI hm 60 (nx:=0) hv hk0 rfl trivial [0,1,9] abL ah ah ?_)
 have w1:i64.wrap ((nl B:Int)-1)=((nl B-1:Nat):Int):=fY aa aa
 rw[w1]
 simp only[af.all,aF,bJ]
 have hlB:=eP (N:=B) (i:=nl B-1)
 refine⟨⟨aa,aa⟩,fun s' hv=>cU ?_⟩
 obtain⟨s,hs⟩:∃s,s=32-bU (aE B (nl B-1)):=⟨_,rfl⟩
 rw[<-hs]at hv
 obtain⟨hs32,hnV,hnorm,hVlt⟩:=Ig hB0 hs
 rw[List.drop_drop]
 refine aI.chunk 1 (aI.gC hT kI hm 60 (nx:=0) hv hk0 rfl trivial [9,10,11] ae4 ah ah ?_)
 simp only[af.all,aF,bJ,Nat.add_zero]
 refine⟨⟨aa,aa,aa,aa,aa,aa,abb,aa⟩,fun s' hv=>cU ?_⟩
 have hV1:(val (nl B+1) fun i=>numOf (aD (aE (B*2^s)) i))=B*2^s:=by
  rw[kX,rB]
  exact Nat.lt_of_lt_of_le hVlt (Nat.pow_le_pow_right aa aa)
 rw[hV1]at hv
 obtain⟨V,hV⟩:∃V,V=B*2^s:=⟨_,rfl⟩
 rw[<-hV]at hv hnV hnorm hVlt
 obtain⟨lq,hlq⟩:∃lq,lq=nl A+1-nl V:=⟨_,rfl⟩
 rw[List.drop_drop]
 refine aI.weak ah (eC (vs:=[.int .i64 s,.own 7 1 0 (nl A+1),.mag V]) (ps:=[(7,⟨true,true,1,nl A+1,aD (aE (A*2^s))⟩)]) (nx:=8) [(7,8192)] hv h0 rfl
  ⟨aU,⟨rfl,e9 rfl rfl rfl⟩,aU,trivial⟩ ⟨⟨_,_,rfl,rfl,gV rfl fun j _=>rfl⟩,trivial⟩) ?_
 refine aI.bM hT kI hm 60 dY aaZ ah ?_
 have w2:i64.wrap (((nl A+1:Nat):Int)-(nl V:Int))=((lq:Nat):Int):=fY aa aa
 have w3:i64.wrap ((lq:Int)-1)=(lq:Int)-1:=wrap_i64 aa aa
 rw[w2]
 simp only[af.all,aF,bJ,w3]
 exact⟨aa,fun s' hv=>fin s lq V s' hs32 hV hnV (by rw[hnV];exact hnorm) aa (eC (vs:=gb lq s (nl A+1) V ((lq:Int)-1)) (ps:=dH lq (nl A+1) (fun _=>0) (aE (A*2^s))) (nx:=9) [(7,7),(8,28680)] hv h0 rfl
  ⟨⟨rfl,e9 rfl rfl rfl⟩,aU,⟨rfl,e9 rfl rfl rfl⟩,aU,aU,aU,trivial⟩
  ⟨⟨_,_,rfl,rfl,gV rfl fun j _=>rfl⟩,⟨_,_,rfl,rfl,gV rfl fun j _=>rfl⟩,trivial⟩)⟩
theorem U2 {A B V s lq:Nat} (hs:s<32) (hV:V=B*2^s) (hn2:2<=nl B) (hnV:nl V=nl B) (hnorm:2^31<=aE V (nl V-1)) (hlq:lq+nl V=nl A+1):A*2^s<2^(32*(nl A+1))/\A*2^s<V*2^(32*lq):=by
 have hS:0<2^s:=Nat.two_pow_pos _
 have hS31:2^s<=2^31:=Nat.pow_le_pow_right aa aa
 have hAl:A<2^(32*nl A):=pn
 have hA2:A*2^s<2^(32*nl A)*2^31:=
  Nat.lt_of_lt_of_le ((Nat.mul_lt_mul_right hS).2 hAl) (Nat.mul_le_mul_left _ hS31)
 have hA3:A*2^s<2^(32*(nl A+1)):=by
  rw[jn];omega
 refine⟨hA3,?_⟩
 have hsp:V=val (nl V-1) (aE V)+aE V (nl V-1)*2^(32*(nl V-1)):=by
  have:=iE (N:=V)
  obtain⟨k,hk⟩:∃k,nl V=k+1:=⟨nl V-1,aa⟩
  rw[hk,val]at this
  rw[hk,Nat.add_sub_cancel]
  exact this.symm
 have h2:2^31*2^(32*(nl V-1))<=V:=by
  have:=Nat.mul_le_mul_right (2^(32*(nl V-1))) hnorm
  omega
 have h3:=Nat.mul_le_mul_right (2^(32*lq)) h2
 have e:2^31*2^(32*(nl V-1))*2^(32*lq)=2^(32*nl A)*2^31:=by
  rw[Nat.mul_assoc,<-Nat.pow_add,Nat.mul_comm]
  congr 2
  omega
 omega
theorem T6 {c:Ctx} (h0:∀k x,c.k0 k=some x->k<9) {A B V s lq:Nat} (hA:nl A<2^40) (hB0:B≠0) (hs:s<32) (hV:V=B*2^s) (hn2:2<=nl B) (hnV:nl V=nl B) (hnorm:2^31<=aE V (nl V-1)) (hlq:lq+nl V=nl A+1):
  aA P c f168.ntmps (part (aJ f168) o6) ⟨aH dY (gb lq s (nl A+1) V ((lq:Int)-1)),dH lq (nl A+1) (fun _=>0) (aE (A*2^s)),9⟩
   (fM (fun s'=>aI P c f168.ntmps (behind (aJ f168) o6) s' (Fin T f168 (oZ A B))) (Fin T f168 (oZ A B))):=by
 obtain⟨z1,z2⟩:=U2 (A:=A) hs hV hn2 hnV hnorm hlq
 have hS:0<2^s:=Nat.two_pow_pos _
 refine ZI (N:=A*2^s) h0 aa aa aa hnorm (fun i _=>eP) (rB z1) z2 rfl fun q u s' hu hq hsum hlt hv=>cU ?_
 have hR:val (nl A+1) u=A%B*2^s:=by
  have h1:(A*2^s)%V=val (nl A+1) u:=by
   rw[<-hsum,Nat.mul_comm,Nat.mul_add_mod];exact Nat.mod_eq_of_lt hlt
  rw[<-h1,hV,Nat.mul_mod_mul_right]
 have hQ:val lq q=A/B:=by
  have h1:(A*2^s)/V=val lq q:=by
   rw[<-hsum,Nat.mul_comm,Nat.mul_add_div aa,Nat.div_eq_of_lt hlt];omega
  rw[<-h1,hV,Nat.mul_div_mul_right _ _ hS]
 have hRl:∀i,i<nl (val (nl A+1) u)->u i=aE (val (nl A+1) u) i:=fun i hi=>(rG hu (Nat.lt_of_lt_of_le hi (eo.2 (ia hu)))).symm
 refine aI.me (nx:=9) hv h0 ah rfl jZ ?_
 show aI P c f168.ntmps [nq] _ _
 refine aA.hole [1,0,1] ah (aI.bM hT yQ hm 60 nQ afu ah ?_)
 simp only[af.all,aF,kX]
 refine⟨⟨iJ hu,trivial,aa⟩,fun s' hv=>cU ?_⟩
 refine Rt (lu:=nl A+1) (u:=u) h0 hs aa rfl (eo.2 (ia hu)) hu hRl hv fun w s' hw hval hv=>cU ?_
 refine aI.mono (Q:=Fin T f168 (oZ A B)) (fun e s' h=>by cases e<;>exact h) ?_
 refine aI.AH hT iY hm 60 (nx:=9) hv h0 rfl jZ Yp ah ah ?_
 simp only[af.all,aF,Nat.add_zero,kX]
 have hll:nl (val (nl A+1) u)<=nl A+1:=eo.2 (ia hu)
 refine⟨⟨iJ hq,aa,iJ fun i hi=>hw i aa,aa⟩,fo (by rw[hQ]),fo ?_,cu (by simp[hB0]),trivial⟩
 rw[if_neg hB0,hval,hR,Nat.mul_div_cancel _ hS]
theorem Rd {n m:Nat} {z y:Nat->Nat} (hz:∀i,i<n->z i<2^32) (hy:∀i,i<m->y i<2^32) (hn:n<2^40) (hm':m<2^40) (K:Nat) (pre:aG):
  aY P 168 K [.az 1 n (aD z),.az 1 m (aD y)] pre (aT (oZ (val n z) (val m y)) []):=by
 refine lO hT QK rfl br rfl (fun _ c h0=>?_) K pre
 have hk0:∀{nx:Nat} k x,c.k0 k=some x->k<nx:=lF h0
 have hA:nl (val n z)<=n:=eo.2 (ia hz)
 have hB:nl (val m y)<=m:=eo.2 (ia hy)
 refine aA.hole o6 ah (aI.chunk 2 (aI.bM hT kI hm 60 [0,1,4,5,6] abS ah ?_))
 simp only[af.all,aF,kX]
 generalize val n z=A at*
 generalize val m y=B at*
 refine⟨⟨iJ hz,aa,iJ hy,aa⟩,fun s' hv=>cU ?_⟩
 refine aI.chunk 1 (aI.gC hT kI hm 60 (nx:=0) hv hk0 rfl trivial [0,1,4,5,6] afn ah ah ?_)
 simp only[af.all,aF,beq_iff_eq,beq_eq_false_iff_ne,ne_eq,bI,bO,Ar]
 have hnl0:nl B=0↔B=0:=⟨fun h=>by
  rcases Nat.eq_zero_or_pos B with h1|h1
  ·exact h1
  ·have:=iO.2 (show B≠0 by omega);omega,fun h=>by subst h;rfl⟩
 refine⟨fun hb s' hv=>?_,fun hb=>⟨⟨aa,aa⟩,fun hlt=>⟨aa,fun s' hv=>?_⟩,fun hge=>⟨fun h1=>?_,fun h1 s' hv=>cU ?_⟩⟩⟩
 ·have hB0:B=0:=hnl0.1 aa
  subst hB0
  refine gO (gO ?_)
  exact iS (us:=[.nil,.nil,.int .i64 3]) (.inr rfl) hv ah ⟨by simpa using mM,mM,cu (by simp),trivial⟩
 ·have hB0:B≠0:=fun h=>hb (by rw[hnl0.2 h];rfl)
  refine gO (gO ?_)
  refine iS (us:=[.nil,.mag A,.int .i64 0]) (.inr rfl) hv ah ⟨?_,fo ?_,cu (by simp[hB0]),trivial⟩
  ·rw[Nat.div_eq_of_lt hlt];exact mM
  ·rw[if_neg hB0,Nat.mod_eq_of_lt hlt]
 ·have h1':nl B=1:=aa
  have hB0:B≠0:=fun h=>hb (by rw[hnl0.2 h];rfl)
  have hl0:aE B 0=B:=by
   have:=iE (N:=B)
   rw[h1',val,val]at this
   simpa using this
  have hBlt:B<2^32:=by rw[<-hl0];exact eP
  have hmod:A%B<2^32:=Nat.lt_trans (Nat.mod_lt _ aa) hBlt
  simp only[Int.toNat_zero,hl0,bJ]
  have hf:(fun i=>nth [AV.int .u32 ((A%B:Nat):Int)] (.int .u32 0) (i+0))=fun i=>aD (fun i=>if i=0 then A%B else 0) i:=by
   funext i
   cases i with
   |zero=>simp[nth,aD]
   |succ i=>simp[nth,aD]
  rw[hf]
  refine⟨⟨aa,aa,aa,aa⟩,⟨aa,iJ (fun i hi=>by split<;>omega),aa⟩,fun s' hv=>gO (gO ?_)⟩
  refine iS (vs:=[.mag A,.mag B,.mag (A/B),.mag (A%B),.int .i64 0]) (os:=[]) (us:=[.mag (A/B),.mag (A%B),.int .i64 0]) (.inr rfl) (eU hv ?_ rfl) ah ⟨.refl _,fo (by rw[if_neg hB0]),cu (by simp[hB0]),trivial⟩
  simp[val,nth,numOf]
  rw[<-Int.natCast_emod,bJ]
 have hB0:B≠0:=fun h=>hb (by rw[hnl0.2 h];rfl)
 have hn2:2<=nl B:=by have:=iO.2 hB0;omega
 rw[List.drop_drop]
 refine VQ h0 aa hn2 aa hv fun s lq V s' hs hV hnV hnorm hlq hle=>cU ?_
 exact aA.mE hle (T6 hk0 aa hB0 hs hV hn2 hnV hnorm hlq)
def FM (A n B m:Nat):en:=aT (oZ A B) [n<2^40,m<2^40]
theorem HA:bF P (cw (jH FM)) 168:=
 cY (vj fun _ _ _ _ K hz hy need=>Rd hz hy need.1 need.2 K [])
end Go.Am.B
