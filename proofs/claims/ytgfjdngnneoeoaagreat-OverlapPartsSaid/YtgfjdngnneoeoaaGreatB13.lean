/- natural.Div: its contract. -/
import Derived.Test.YtgfjdngnneoeoaaGreatB12
set_option linter.unusedVariables false
namespace Go.Am.B
open Go Go.Am.N AV Proofs.Tryz IntKind
abbrev mO (A B:Nat):AV:=.tuple [.mag (A/B),.mag (if B=0 then 0 else A%B),.int .i64 (if B=0 then 3 else 0)]
theorem aeK {n N:Nat}:eo n (aA (aB N)):=gD fun _ _=>dS
theorem x6 {a b:Nat}:cY a b<0↔a<b:=by
 unfold cY
 split
 ·simp_all
 ·split<;>simp_all
theorem cL {k:aK->Prop} {Q:aq->aK->Prop} {s:aK} (h:k s):ey k Q .normal s:=h
theorem So {c:Ctx} (h0:c.k0=bt) {A B:Nat} (hA:nl A<2^40) (hn2:2<=nl B) (hAB:B<=A) {Q:aq->aK->Prop} {s':aK}
  (hv:bB [0,1,4,5,6] s'=some ([.mag A,.mag B,.nil,.nil,.int .i64 0],[]))
  (fin:∀s lq V s',s<32->V=B*2^s->nl V=nl B->2^31<=aB V (nl V-1)->lq+nl V=nl A+1->(∃ρ,Le c ρ s' ⟨aG dD (fq lq s (nl A+1) V ((lq:Int)-1)),cZ lq (nl A+1) (fun _=>0) (aB (A*2^s)),9⟩)->Q .normal s'):
  aI P c f133.ntmps ((before (aF f133) nw).drop (2+1)) s' Q:=by
 have hk0:∀{nx:Nat} k x,c.k0 k=some x->k<nx:=jW h0
 have hABn:nl B<=nl A:=iC hAB
 have hB0:B≠0:=fun h=>by subst h;simp[nl]at hn2
 refine aI.chunk 1 (aI.fE hT jJ hm 60 (nx:=0) hv hk0 rfl trivial [0,1,9] Vg ah ah ?_)
 have w1:i64.wrap ((nl B:Int)-1)=((nl B-1:Nat):Int):=fe aa aa
 rw[w1]
 simp only[ag.all,au,br]
 have hlB:=dS (N:=B) (i:=nl B-1)
 refine⟨⟨aa,aa⟩,fun s' hv=>cL ?_⟩
 obtain⟨s,hs⟩:∃s,s=32-bN (aB B (nl B-1)):=⟨_,rfl⟩
 rw[<-hs]at hv
 obtain⟨hs32,hnV,hnorm,hVlt⟩:=Md hB0 hs
 rw[List.drop_drop]
 refine aI.chunk 1 (aI.fE hT jJ hm 60 (nx:=0) hv hk0 rfl trivial [9,10,11] P9 ah ah ?_)
 simp only[ag.all,au,br,Nat.add_zero]
 refine⟨⟨aa,aa,aa,aa,aa,aa,aeK,aa⟩,fun s' hv=>cL ?_⟩
 have hV1:(val (nl B+1) fun i=>numOf (aA (aB (B*2^s)) i))=B*2^s:=by
  rw[jO,pU]
  exact Nat.lt_of_lt_of_le hVlt (Nat.pow_le_pow_right aa aa)
 rw[hV1]at hv
 obtain⟨V,hV⟩:∃V,V=B*2^s:=⟨_,rfl⟩
 rw[<-hV]at hv hnV hnorm hVlt
 obtain⟨lq,hlq⟩:∃lq,lq=nl A+1-nl V:=⟨_,rfl⟩
 rw[List.drop_drop]
 refine aI.weak ah (dI (vs:=[.int .i64 s,.own 7 1 0 (nl A+1),.mag V]) (ps:=[(7,⟨true,true,1,nl A+1,aA (aB (A*2^s))⟩)]) (nx:=8) [(7,8192)] hv h0 rfl
  ⟨aP,⟨rfl,dx rfl rfl rfl⟩,aP,trivial⟩ ⟨⟨_,_,rfl,rfl,fP rfl fun j _=>rfl⟩,trivial⟩) ?_
 refine aI.bH hT jJ hm 60 dD ahV ah ?_
 have w2:i64.wrap (((nl A+1:Nat):Int)-(nl V:Int))=((lq:Nat):Int):=fe aa aa
 have w3:i64.wrap ((lq:Int)-1)=(lq:Int)-1:=wrap_i64 aa aa
 rw[w2]
 simp only[ag.all,au,br,w3]
 exact⟨aa,fun s' hv=>fin s lq V s' hs32 hV hnV (by rw[hnV];exact hnorm) aa (dI (vs:=fq lq s (nl A+1) V ((lq:Int)-1)) (ps:=cZ lq (nl A+1) (fun _=>0) (aB (A*2^s))) (nx:=9) [(7,7),(8,28680)] hv h0 rfl
  ⟨⟨rfl,dx rfl rfl rfl⟩,aP,⟨rfl,dx rfl rfl rfl⟩,aP,aP,aP,trivial⟩
  ⟨⟨_,_,rfl,rfl,fP rfl fun j _=>rfl⟩,⟨_,_,rfl,rfl,fP rfl fun j _=>rfl⟩,trivial⟩)⟩
theorem Qk {A B V s lq:Nat} (hs:s<32) (hV:V=B*2^s) (hn2:2<=nl B) (hnV:nl V=nl B) (hnorm:2^31<=aB V (nl V-1)) (hlq:lq+nl V=nl A+1):A*2^s<2^(32*(nl A+1))/\A*2^s<V*2^(32*lq):=by
 have hS:0<2^s:=Nat.two_pow_pos _
 have hS31:2^s<=2^31:=Nat.pow_le_pow_right aa aa
 have hAl:A<2^(32*nl A):=nj
 have hA2:A*2^s<2^(32*nl A)*2^31:=
  Nat.lt_of_lt_of_le ((Nat.mul_lt_mul_right hS).2 hAl) (Nat.mul_le_mul_left _ hS31)
 have hA3:A*2^s<2^(32*(nl A+1)):=by
  rw[iB];omega
 refine⟨hA3,?_⟩
 have hsp:V=val (nl V-1) (aB V)+aB V (nl V-1)*2^(32*(nl V-1)):=by
  have:=gq (N:=V)
  obtain⟨k,hk⟩:∃k,nl V=k+1:=⟨nl V-1,aa⟩
  rw[hk,val]at this
  rw[hk,Nat.add_sub_cancel]
  exact this.symm
 have h2:2^31*2^(32*(nl V-1))<=V:=by
  have:=Nat.mul_le_mul_right (2^(32*(nl V-1))) hnorm
  omega
 have h3:=Nat.mul_le_mul_right (2^(32*lq)) h2
 have e:2^31*2^(32*(nl V-1))*2^(32*lq)=2^(32*nl A)*2^31:=by
  rw[Nat.mul_assoc,<-Nat.pow_add,Nat.mul_comm]
  congr 2
  omega
 omega
theorem SI {c:Ctx} (h0:∀k x,c.k0 k=some x->k<9) {A B V s lq:Nat} (hA:nl A<2^40) (hB0:B≠0) (hs:s<32) (hV:V=B*2^s) (hn2:2<=nl B) (hnV:nl V=nl B) (hnorm:2^31<=aB V (nl V-1)) (hlq:lq+nl V=nl A+1):
  ay P c f133.ntmps (part (aF f133) nw) ⟨aG dD (fq lq s (nl A+1) V ((lq:Int)-1)),cZ lq (nl A+1) (fun _=>0) (aB (A*2^s)),9⟩
   (ey (fun s'=>aI P c f133.ntmps (behind (aF f133) nw) s' (Fin T f133 (mO A B))) (Fin T f133 (mO A B))):=by
 obtain⟨z1,z2⟩:=Qk (A:=A) hs hV hn2 hnV hnorm hlq
 have hS:0<2^s:=Nat.two_pow_pos _
 refine XC (N:=A*2^s) h0 aa aa aa hnorm (fun i _=>dS) (pU z1) z2 rfl fun q u s' hu hq hsum hlt hv=>cL ?_
 have hR:val (nl A+1) u=A%B*2^s:=by
  have h1:(A*2^s)%V=val (nl A+1) u:=by
   rw[<-hsum,Nat.mul_comm,Nat.mul_add_mod];exact Nat.mod_eq_of_lt hlt
  rw[<-h1,hV,Nat.mul_mod_mul_right]
 have hQ:val lq q=A/B:=by
  have h1:(A*2^s)/V=val lq q:=by
   rw[<-hsum,Nat.mul_comm,Nat.mul_add_div aa,Nat.div_eq_of_lt hlt];omega
  rw[<-h1,hV,Nat.mul_div_mul_right _ _ hS]
 have hRl:∀i,i<nl (val (nl A+1) u)->u i=aB (val (nl A+1) u) i:=fun i hi=>(o5 hu (Nat.lt_of_lt_of_le hi (dL.2 (ga hu)))).symm
 refine aI.j3 (nx:=9) hv h0 ah rfl jk ?_
 show aI P c f133.ntmps [lY] _ _
 refine ay.hole [1,0,1] ah (aI.bH hT vi hm 60 mm abk ah ?_)
 simp only[ag.all,au,jO]
 refine⟨⟨gD hu,trivial,aa⟩,fun s' hv=>cL ?_⟩
 refine PU (lu:=nl A+1) (u:=u) h0 hs aa rfl (dL.2 (ga hu)) hu hRl hv fun w s' hw hval hv=>cL ?_
 refine aI.mono (Q:=Fin T f133 (mO A B)) (fun e s' h=>by cases e<;>exact h) ?_
 refine aI.AX hT gX hm 60 (nx:=9) hv h0 rfl jk aeO ah ah ?_
 simp only[ag.all,au,Nat.add_zero,jO]
 have hll:nl (val (nl A+1) u)<=nl A+1:=dL.2 (ga hu)
 refine⟨⟨gD hq,aa,gD fun i hi=>hw i aa,aa⟩,dX (by rw[hQ]),dX ?_,bW (by simp[hB0]),trivial⟩
 rw[if_neg hB0,hval,hR,Nat.mul_div_cancel _ hS]
theorem TZ {n m:Nat} {z y:Nat->Nat} (hz:∀i,i<n->z i<2^32) (hy:∀i,i<m->y i<2^32) (hn:n<2^40) (hm':m<2^40) (K:Nat) (pre:aD):
  aN P 133 K [.ak 1 n (aA z),.ak 1 m (aA y)] pre (aH (mO (val n z) (val m y)) []):=by
 refine jN hT Yw rfl aW rfl (fun _ c h0=>?_) K pre
 have hk0:∀{nx:Nat} k x,c.k0 k=some x->k<nx:=jW h0
 have hA:nl (val n z)<=n:=dL.2 (ga hz)
 have hB:nl (val m y)<=m:=dL.2 (ga hy)
 refine ay.hole nw ah (aI.chunk 2 (aI.bH hT jJ hm 60 [0,1,4,5,6] Wd ah ?_))
 simp only[ag.all,au,jO]
 generalize val n z=A at*
 generalize val m y=B at*
 refine⟨⟨gD hz,aa,gD hy,aa⟩,fun s' hv=>cL ?_⟩
 refine aI.chunk 1 (aI.fE hT jJ hm 60 (nx:=0) hv hk0 rfl trivial [0,1,4,5,6] YX ah ah ?_)
 simp only[ag.all,au,beq_iff_eq,beq_eq_false_iff_ne,ne_eq,bz,bG,x6]
 have hnl0:nl B=0↔B=0:=⟨fun h=>by
  rcases Nat.eq_zero_or_pos B with h1|h1
  ·exact h1
  ·have:=gE.2 (show B≠0 by omega);omega,fun h=>by subst h;rfl⟩
 refine⟨fun hb s' hv=>?_,fun hb=>⟨⟨aa,aa⟩,fun hlt=>⟨aa,fun s' hv=>?_⟩,fun hge=>⟨fun h1=>?_,fun h1 s' hv=>cL ?_⟩⟩⟩
 ·have hB0:B=0:=hnl0.1 aa
  subst hB0
  refine fI (fI ?_)
  exact gU (us:=[.nil,.nil,.int .i64 3]) (.inr rfl) hv ah ⟨by simpa using kO,kO,bW (by simp),trivial⟩
 ·have hB0:B≠0:=fun h=>hb (by rw[hnl0.2 h];rfl)
  refine fI (fI ?_)
  refine gU (us:=[.nil,.mag A,.int .i64 0]) (.inr rfl) hv ah ⟨?_,dX ?_,bW (by simp[hB0]),trivial⟩
  ·rw[Nat.div_eq_of_lt hlt];exact kO
  ·rw[if_neg hB0,Nat.mod_eq_of_lt hlt]
 ·have h1':nl B=1:=aa
  have hB0:B≠0:=fun h=>hb (by rw[hnl0.2 h];rfl)
  have hl0:aB B 0=B:=by
   have:=gq (N:=B)
   rw[h1',val,val]at this
   simpa using this
  have hBlt:B<2^32:=by rw[<-hl0];exact dS
  have hmod:A%B<2^32:=Nat.lt_trans (Nat.mod_lt _ aa) hBlt
  simp only[Int.toNat_zero,hl0,br]
  have hf:(fun i=>nth [AV.int .u32 ((A%B:Nat):Int)] (.int .u32 0) (i+0))=fun i=>aA (fun i=>if i=0 then A%B else 0) i:=by
   funext i
   cases i with
   |zero=>simp[nth,aA]
   |succ i=>simp[nth,aA]
  rw[hf]
  refine⟨⟨aa,aa,aa,aa⟩,⟨aa,gD (fun i hi=>by split<;>omega),aa⟩,fun s' hv=>fI (fI ?_)⟩
  refine gU (vs:=[.mag A,.mag B,.mag (A/B),.mag (A%B),.int .i64 0]) (os:=[]) (us:=[.mag (A/B),.mag (A%B),.int .i64 0]) (.inr rfl) (ee hv ?_ rfl) ah ⟨.refl _,dX (by rw[if_neg hB0]),bW (by simp[hB0]),trivial⟩
  simp[val,nth,numOf]
  rw[<-Int.natCast_emod,br]
 have hB0:B≠0:=fun h=>hb (by rw[hnl0.2 h];rfl)
 have hn2:2<=nl B:=by have:=gE.2 hB0;omega
 rw[List.drop_drop]
 refine So h0 aa hn2 aa hv fun s lq V s' hs hV hnV hnorm hlq hle=>cL ?_
 exact ay.lD hle (SI hk0 aa hB0 hs hV hn2 hnV hnorm hlq)
def B9 (A n B m:Nat):dw:=aH (mO A B) [n<2^40,m<2^40]
theorem J2:bf P (bX (iY B9)) 133:=
 cM (sC fun _ _ _ _ K hz hy need=>TZ hz hy need.1 need.2 K [])
end Go.Am.B
