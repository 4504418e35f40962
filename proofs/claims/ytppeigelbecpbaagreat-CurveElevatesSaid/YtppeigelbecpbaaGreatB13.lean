/- natural. -/
import Derived.Test.YtppeigelbecpbaaGreatB12
set_option linter.unusedVariables false
namespace Go.Am.B
open Go Go.Am.N AV
abbrev nA (A B:Nat):AV:=.tuple [.mag (A/B),.mag (if B=0 then 0 else A%B),.int .i64 (if B=0 then 3 else 0)]
theorem acm {n N:Nat}:dQ n (aD (aG N)):=gd fun _ _=>dG
theorem Cz {a b:Nat}:cX a b<0↔a<b:=by
 unfold cX
 split
 ·simp_all
 ·split<;>simp_all
theorem cJ {k:aM->Prop} {Q:au->aM->Prop} {s:aM} (h:k s):dH k Q .normal s:=h
theorem ajo {c:Ctx} (h0:c.k0=bB) {A B:Nat} (hA:nl A<2^40) (hn2:2<=nl B) (hAB:B<=A) {Q:au->aM->Prop} {s':aM}
  (hv:bt [0,1,4,5,6] s'=some ([.mag A,.mag B,.nil,.nil,.int .i64 0],[]))
  (fin:∀s lq V s',s<32->V=B*2^s->nl V=nl B->2^31<=aG V (nl V-1)->lq+nl V=nl A+1->(∃ρ,Le c ρ s' ⟨aC dw (eR lq s (nl A+1) V ((lq:Int)-1)),cY lq (nl A+1) (fun _=>0) (aG (A*2^s)),9⟩)->Q .normal s'):
  aI P c ej.ntmps ((before (aA ej) nw).drop (2+1)) s' Q:=by
 have hk0:∀{nx:Nat} k x,c.k0 k=some x->k<nx:=kA h0
 have hABn:nl B<=nl A:=gV hAB
 have hB0:B≠0:=fun h=>by subst h;simp[nl]at hn2
 refine aI.chunk 1 (aI.fh hT jr hm 60 (nx:=0) hv hk0 rfl trivial [0,1,9] aiJ ag ag ?_)
 have w1:IntKind.i64.wrap ((nl B:Int)-1)=((nl B-1:Nat):Int):=eC aa aa
 rw[w1]
 simp only[ah.all,az,aW]
 have hlB:=dG (N:=B) (i:=nl B-1)
 refine⟨⟨aa,aa⟩,fun s' hv=>cJ ?_⟩
 obtain⟨s,hs⟩:∃s,s=32-bN (aG B (nl B-1)):=⟨_,rfl⟩
 rw[<-hs]at hv
 obtain⟨hs32,hnV,hnorm,hVlt⟩:=M5 hB0 hs
 rw[List.drop_drop]
 refine aI.chunk 1 (aI.fh hT jr hm 60 (nx:=0) hv hk0 rfl trivial [9,10,11] W3 ag ag ?_)
 simp only[ah.all,az,aW,Nat.add_zero]
 refine⟨⟨aa,aa,aa,aa,aa,aa,acm,aa⟩,fun s' hv=>cJ ?_⟩
 have hV1:(val (nl B+1) fun i=>numOf (aD (aG (B*2^s)) i))=B*2^s:=by
  rw[jQ,qq]
  exact Nat.lt_of_lt_of_le hVlt (Nat.pow_le_pow_right aa aa)
 rw[hV1]at hv
 obtain⟨V,hV⟩:∃V,V=B*2^s:=⟨_,rfl⟩
 rw[<-hV]at hv hnV hnorm hVlt
 obtain⟨lq,hlq⟩:∃lq,lq=nl A+1-nl V:=⟨_,rfl⟩
 rw[List.drop_drop]
 refine aI.weak ag (dB (vs:=[.int .i64 s,.own 7 1 0 (nl A+1),.mag V]) (ps:=[(7,⟨true,true,1,nl A+1,aD (aG (A*2^s))⟩)]) (nx:=8) [(7,8192)] hv h0 rfl
  ⟨⟨rfl,aN rfl⟩,⟨rfl,cD rfl rfl rfl⟩,⟨rfl,aN rfl⟩,trivial⟩ ⟨⟨_,_,rfl,rfl,fF rfl fun j _=>rfl⟩,trivial⟩) ?_
 refine aI.bA hT jr hm 60 dw TG ag ?_
 have w2:IntKind.i64.wrap (((nl A+1:Nat):Int)-(nl V:Int))=((lq:Nat):Int):=eC aa aa
 have w3:IntKind.i64.wrap ((lq:Int)-1)=(lq:Int)-1:=wrap_i64 aa aa
 rw[w2]
 simp only[ah.all,az,aW,w3]
 exact⟨aa,fun s' hv=>fin s lq V s' hs32 hV hnV (by rw[hnV];exact hnorm) aa (dB (vs:=eR lq s (nl A+1) V ((lq:Int)-1)) (ps:=cY lq (nl A+1) (fun _=>0) (aG (A*2^s))) (nx:=9) [(7,7),(8,28680)] hv h0 rfl
  ⟨⟨rfl,cD rfl rfl rfl⟩,⟨rfl,aN rfl⟩,⟨rfl,cD rfl rfl rfl⟩,⟨rfl,aN rfl⟩,⟨rfl,aN rfl⟩,⟨rfl,aN rfl⟩,trivial⟩
  ⟨⟨_,_,rfl,rfl,fF rfl fun j _=>rfl⟩,⟨_,_,rfl,rfl,fF rfl fun j _=>rfl⟩,trivial⟩)⟩
theorem afJ {A B V s lq:Nat} (hs:s<32) (hV:V=B*2^s) (hn2:2<=nl B) (hnV:nl V=nl B) (hnorm:2^31<=aG V (nl V-1)) (hlq:lq+nl V=nl A+1):A*2^s<2^(32*(nl A+1))/\A*2^s<V*2^(32*lq):=by
 have hS:0<2^s:=Nat.two_pow_pos _
 have hS31:2^s<=2^31:=Nat.pow_le_pow_right aa aa
 have hAl:A<2^(32*nl A):=nh
 have hA2:A*2^s<2^(32*nl A)*2^31:=
  Nat.lt_of_lt_of_le ((Nat.mul_lt_mul_right hS).2 hAl) (Nat.mul_le_mul_left _ hS31)
 have hA3:A*2^s<2^(32*(nl A+1)):=by
  rw[gY];omega
 refine⟨hA3,?_⟩
 have hsp:V=val (nl V-1) (aG V)+aG V (nl V-1)*2^(32*(nl V-1)):=by
  have:=fZ (N:=V)
  obtain⟨k,hk⟩:∃k,nl V=k+1:=⟨nl V-1,aa⟩
  rw[hk,val]at this
  rw[hk,Nat.add_sub_cancel]
  exact this.symm
 have h2:2^31*2^(32*(nl V-1))<=V:=by
  have:=Nat.mul_le_mul_right (2^(32*(nl V-1))) hnorm
  omega
 have h3:=Nat.mul_le_mul_right (2^(32*lq)) h2
 have e:2^31*2^(32*(nl V-1))*2^(32*lq)=2^(32*nl A)*2^31:=by
  rw[Nat.mul_assoc,<-Nat.pow_add,Nat.mul_comm]
  congr 2
  omega
 omega
theorem ZG {c:Ctx} (h0:∀k x,c.k0 k=some x->k<9) {A B V s lq:Nat} (hA:nl A<2^40) (hB0:B≠0) (hs:s<32) (hV:V=B*2^s) (hn2:2<=nl B) (hnV:nl V=nl B) (hnorm:2^31<=aG V (nl V-1)) (hlq:lq+nl V=nl A+1):
  ax P c ej.ntmps (part (aA ej) nw) ⟨aC dw (eR lq s (nl A+1) V ((lq:Int)-1)),cY lq (nl A+1) (fun _=>0) (aG (A*2^s)),9⟩
   (dH (fun s'=>aI P c ej.ntmps (behind (aA ej) nw) s' (Fin T ej (nA A B))) (Fin T ej (nA A B))):=by
 obtain⟨z1,z2⟩:=afJ (A:=A) hs hV hn2 hnV hnorm hlq
 have hS:0<2^s:=Nat.two_pow_pos _
 refine agN (N:=A*2^s) h0 aa aa aa hnorm (fun i _=>dG) (qq z1) z2 rfl fun q u s' hu hq hsum hlt hv=>cJ ?_
 have hR:val (nl A+1) u=A%B*2^s:=by
  have h1:(A*2^s)%V=val (nl A+1) u:=by
   rw[<-hsum,Nat.mul_comm,Nat.mul_add_mod];exact Nat.mod_eq_of_lt hlt
  rw[<-h1,hV,Nat.mul_mod_mul_right]
 have hQ:val lq q=A/B:=by
  have h1:(A*2^s)/V=val lq q:=by
   rw[<-hsum,Nat.mul_comm,Nat.mul_add_div aa,Nat.div_eq_of_lt hlt];omega
  rw[<-h1,hV,Nat.mul_div_mul_right _ _ hS]
 have hRl:∀i,i<nl (val (nl A+1) u)->u i=aG (val (nl A+1) u) i:=fun i hi=>(qN hu (Nat.lt_of_lt_of_le hi (dz.2 (fO hu)))).symm
 refine aI.kj (nx:=9) hv h0 ag rfl jf ?_
 show aI P c ej.ntmps [mw] _ _
 refine ax.hole [1,0,1] ag (aI.bA hT AH hm 60 m8 YT ag ?_)
 simp only[ah.all,az,jQ]
 refine⟨⟨gd hu,trivial,aa⟩,fun s' hv=>cJ ?_⟩
 refine aaI (lu:=nl A+1) (u:=u) h0 hs aa rfl (dz.2 (fO hu)) hu hRl hv fun w s' hw hval hv=>cJ ?_
 refine aI.mono (Q:=Fin T ej (nA A B)) (fun e s' h=>by cases e<;>exact h) ?_
 refine aI.Ge hT gA hm 60 (nx:=9) hv h0 rfl jf abf ag ag ?_
 simp only[ah.all,az,Nat.add_zero,jQ]
 have hll:nl (val (nl A+1) u)<=nl A+1:=dz.2 (fO hu)
 refine⟨⟨gd hq,aa,gd fun i hi=>hw i aa,aa⟩,dF (by rw[hQ]),dF ?_,bQ (by simp[hB0]),trivial⟩
 rw[if_neg hB0,hval,hR,Nat.mul_div_cancel _ hS]
theorem acj {n m:Nat} {z y:Nat->Nat} (hz:∀i,i<n->z i<2^32) (hy:∀i,i<m->y i<2^32) (hn:n<2^40) (hm':m<2^40) (K:Nat) (pre:aF):
  aE P AL K [.aq 1 n (aD z),.aq 1 m (aD y)] pre (aK (nA (val n z) (val m y)) []):=by
 refine jM hT WJ rfl aX rfl (fun _ c h0=>?_) K pre
 have hk0:∀{nx:Nat} k x,c.k0 k=some x->k<nx:=kA h0
 have hA:nl (val n z)<=n:=dz.2 (fO hz)
 have hB:nl (val m y)<=m:=dz.2 (fO hy)
 refine ax.hole nw ag (aI.chunk 2 (aI.bA hT jr hm 60 [0,1,4,5,6] XS ag ?_))
 simp only[ah.all,az,jQ]
 generalize val n z=A at*
 generalize val m y=B at*
 refine⟨⟨gd hz,aa,gd hy,aa⟩,fun s' hv=>cJ ?_⟩
 refine aI.chunk 1 (aI.fh hT jr hm 60 (nx:=0) hv hk0 rfl trivial [0,1,4,5,6] ZO ag ag ?_)
 simp only[ah.all,az,beq_iff_eq,beq_eq_false_iff_ne,ne_eq,aZ,bk,Cz]
 have hnl0:nl B=0↔B=0:=⟨fun h=>by
  rcases Nat.eq_zero_or_pos B with h1|h1
  ·exact h1
  ·have:=gn.2 (show B≠0 by omega);omega,fun h=>by subst h;rfl⟩
 refine⟨fun hb s' hv=>?_,fun hb=>⟨⟨aa,aa⟩,fun hlt=>⟨aa,fun s' hv=>?_⟩,fun hge=>⟨fun h1=>?_,fun h1 s' hv=>cJ ?_⟩⟩⟩
 ·have hB0:B=0:=hnl0.1 aa
  subst hB0
  refine fA (fA ?_)
  exact gy (us:=[.nil,.nil,.int .i64 3]) (.inr rfl) hv ag ⟨by simpa using lH,lH,bQ (by simp),trivial⟩
 ·have hB0:B≠0:=fun h=>hb (by rw[hnl0.2 h];rfl)
  refine fA (fA ?_)
  refine gy (us:=[.nil,.mag A,.int .i64 0]) (.inr rfl) hv ag ⟨?_,dF ?_,bQ (by simp[hB0]),trivial⟩
  ·rw[Nat.div_eq_of_lt hlt];exact lH
  ·rw[if_neg hB0,Nat.mod_eq_of_lt hlt]
 ·have h1':nl B=1:=aa
  have hB0:B≠0:=fun h=>hb (by rw[hnl0.2 h];rfl)
  have hl0:aG B 0=B:=by
   have:=fZ (N:=B)
   rw[h1',val,val]at this
   simpa using this
  have hBlt:B<2^32:=by rw[<-hl0];exact dG
  have hmod:A%B<2^32:=Nat.lt_trans (Nat.mod_lt _ aa) hBlt
  simp only[Int.toNat_zero,hl0,aW]
  have hf:(fun i=>nth [AV.int .u32 ((A%B:Nat):Int)] (.int .u32 0) (i+0))=fun i=>aD (fun i=>if i=0 then A%B else 0) i:=by
   funext i
   cases i with
   |zero=>simp[nth,aD]
   |succ i=>simp[nth,aD]
  rw[hf]
  refine⟨⟨aa,aa,aa,aa⟩,⟨aa,gd (fun i hi=>by split<;>omega),aa⟩,fun s' hv=>fA (fA ?_)⟩
  refine gy (vs:=[.mag A,.mag B,.mag (A/B),.mag (A%B),.int .i64 0]) (os:=[]) (us:=[.mag (A/B),.mag (A%B),.int .i64 0]) (.inr rfl) (dJ hv ?_ rfl) ag ⟨.refl _,dF (by rw[if_neg hB0]),bQ (by simp[hB0]),trivial⟩
  simp[val,nth,numOf]
  rw[<-Int.natCast_emod,aW]
 have hB0:B≠0:=fun h=>hb (by rw[hnl0.2 h];rfl)
 have hn2:2<=nl B:=by have:=gn.2 hB0;omega
 rw[List.drop_drop]
 refine ajo h0 aa hn2 aa hv fun s lq V s' hs hV hnV hnorm hlq hle=>cJ ?_
 exact ax.jA hle (ZG hk0 aa hB0 hs hV hn2 hnV hnorm hlq)
def KN (A n B m:Nat):dm:=aK (nA A B) [n<2^40,m<2^40]
theorem Re:∀K args pre r,bX (iz KN) K args pre=some r->aE P AL K args pre r:=
 cK (vf fun _ _ _ _ K hz hy need=>acj hz hy need.1 need.2 K [])
end Go.Am.B
