/- natural.Div: its contract. -/
import Derived.Test.YtnniljlepppdpaaGreatB12
set_option linter.unusedVariables false
namespace Go.Am.B
open Go Go.Am.N AV
abbrev mY (A B:Nat):AV:=.tuple [.mag (A/B),.mag (if B=0 then 0 else A%B),.int .i64 (if B=0 then 3 else 0)]
theorem abC {n N:Nat}:dN n (aB (aC N)):=fW fun _ _=>dG
theorem Eh {a b:Nat}:cO a b<0↔a<b:=by
 unfold cO
 split
 ·simp_all
 ·split<;>simp_all
theorem cw {k:aH->Prop} {Q:ak->aH->Prop} {s:aH} (h:k s):dM k Q .normal s:=h
theorem Ww {c:Ctx} (h0:c.k0=br) {A B:Nat} (hA:nl A<2^40) (hn2:2<=nl B) (hAB:B<=A) {Q:ak->aH->Prop} {s':aH}
  (hv:bk [0,1,4,5,6] s'=some ([.mag A,.mag B,.nil,.nil,.int .i64 0],[]))
  (fin:∀s lq V s',s<32->V=B*2^s->nl V=nl B->2^31<=aC V (nl V-1)->lq+nl V=nl A+1->(∃ρ,Le c ρ s' ⟨aF dc (eJ lq s (nl A+1) V ((lq:Int)-1)),cS lq (nl A+1) (fun _=>0) (aC (A*2^s)),9⟩)->Q .normal s'):
  aG P c ej.ntmps ((before (az ej) mW).drop (2+1)) s' Q:=by
 have hk0:∀{nx:Nat} k x,c.k0 k=some x->k<nx:=jU h0
 have hABn:nl B<=nl A:=gJ hAB
 have hB0:B≠0:=fun h=>by subst h;simp[nl]at hn2
 refine aG.chunk 1 (aG.eW hT jg hm 60 (nx:=0) hv hk0 rfl trivial [0,1,9] ac9 ah ah ?_)
 have w1:IntKind.i64.wrap ((nl B:Int)-1)=((nl B-1:Nat):Int):=eB aa aa
 rw[w1]
 simp only[ag.all,aA,aX]
 have hlB:=dG (N:=B) (i:=nl B-1)
 refine⟨⟨aa,aa⟩,fun s' hv=>cw ?_⟩
 obtain⟨s,hs⟩:∃s,s=32-bG (aC B (nl B-1)):=⟨_,rfl⟩
 rw[<-hs]at hv
 obtain⟨hs32,hnV,hnorm,hVlt⟩:=JO hB0 hs
 rw[List.drop_drop]
 refine aG.chunk 1 (aG.eW hT jg hm 60 (nx:=0) hv hk0 rfl trivial [9,10,11] ab8 ah ah ?_)
 simp only[ag.all,aA,aX,Nat.add_zero]
 refine⟨⟨aa,aa,aa,aa,aa,aa,abC,aa⟩,fun s' hv=>cw ?_⟩
 have hV1:(val (nl B+1) fun i=>numOf (aB (aC (B*2^s)) i))=B*2^s:=by
  rw[jE,p7]
  exact Nat.lt_of_lt_of_le hVlt (Nat.pow_le_pow_right aa aa)
 rw[hV1]at hv
 obtain⟨V,hV⟩:∃V,V=B*2^s:=⟨_,rfl⟩
 rw[<-hV]at hv hnV hnorm hVlt
 obtain⟨lq,hlq⟩:∃lq,lq=nl A+1-nl V:=⟨_,rfl⟩
 rw[List.drop_drop]
 refine aG.weak ah (dr (vs:=[.int .i64 s,.own 7 1 0 (nl A+1),.mag V]) (ps:=[(7,⟨true,true,1,nl A+1,aB (aC (A*2^s))⟩)]) (nx:=8) [(7,8192)] hv h0 rfl
  ⟨⟨rfl,aK rfl⟩,⟨rfl,cP rfl rfl rfl⟩,⟨rfl,aK rfl⟩,trivial⟩ ⟨⟨_,_,rfl,rfl,fq rfl fun j _=>rfl⟩,trivial⟩) ?_
 refine aG.bz hT jg hm 60 dc Zu ah ?_
 have w2:IntKind.i64.wrap (((nl A+1:Nat):Int)-(nl V:Int))=((lq:Nat):Int):=eB aa aa
 have w3:IntKind.i64.wrap ((lq:Int)-1)=(lq:Int)-1:=wrap_i64 aa aa
 rw[w2]
 simp only[ag.all,aA,aX,w3]
 exact⟨aa,fun s' hv=>fin s lq V s' hs32 hV hnV (by rw[hnV];exact hnorm) aa (dr (vs:=eJ lq s (nl A+1) V ((lq:Int)-1)) (ps:=cS lq (nl A+1) (fun _=>0) (aC (A*2^s))) (nx:=9) [(7,7),(8,28680)] hv h0 rfl
  ⟨⟨rfl,cP rfl rfl rfl⟩,⟨rfl,aK rfl⟩,⟨rfl,cP rfl rfl rfl⟩,⟨rfl,aK rfl⟩,⟨rfl,aK rfl⟩,⟨rfl,aK rfl⟩,trivial⟩
  ⟨⟨_,_,rfl,rfl,fq rfl fun j _=>rfl⟩,⟨_,_,rfl,rfl,fq rfl fun j _=>rfl⟩,trivial⟩)⟩
theorem Vv {A B V s lq:Nat} (hs:s<32) (hV:V=B*2^s) (hn2:2<=nl B) (hnV:nl V=nl B) (hnorm:2^31<=aC V (nl V-1)) (hlq:lq+nl V=nl A+1):A*2^s<2^(32*(nl A+1))/\A*2^s<V*2^(32*lq):=by
 have hS:0<2^s:=Nat.two_pow_pos _
 have hS31:2^s<=2^31:=Nat.pow_le_pow_right aa aa
 have hAl:A<2^(32*nl A):=mT
 have hA2:A*2^s<2^(32*nl A)*2^31:=
  Nat.lt_of_lt_of_le ((Nat.mul_lt_mul_right hS).2 hAl) (Nat.mul_le_mul_left _ hS31)
 have hA3:A*2^s<2^(32*(nl A+1)):=by
  rw[gL];omega
 refine⟨hA3,?_⟩
 have hsp:V=val (nl V-1) (aC V)+aC V (nl V-1)*2^(32*(nl V-1)):=by
  have:=fS (N:=V)
  obtain⟨k,hk⟩:∃k,nl V=k+1:=⟨nl V-1,aa⟩
  rw[hk,val]at this
  rw[hk,Nat.add_sub_cancel]
  exact this.symm
 have h2:2^31*2^(32*(nl V-1))<=V:=by
  have:=Nat.mul_le_mul_right (2^(32*(nl V-1))) hnorm
  omega
 have h3:=Nat.mul_le_mul_right (2^(32*lq)) h2
 have e:2^31*2^(32*(nl V-1))*2^(32*lq)=2^(32*nl A)*2^31:=by
  rw[Nat.mul_assoc,<-Nat.pow_add,Nat.mul_comm]
  congr 2
  omega
 omega
theorem Tc {c:Ctx} (h0:∀k x,c.k0 k=some x->k<9) {A B V s lq:Nat} (hA:nl A<2^40) (hB0:B≠0) (hs:s<32) (hV:V=B*2^s) (hn2:2<=nl B) (hnV:nl V=nl B) (hnorm:2^31<=aC V (nl V-1)) (hlq:lq+nl V=nl A+1):
  ay P c ej.ntmps (part (az ej) mW) ⟨aF dc (eJ lq s (nl A+1) V ((lq:Int)-1)),cS lq (nl A+1) (fun _=>0) (aC (A*2^s)),9⟩
   (dM (fun s'=>aG P c ej.ntmps (behind (az ej) mW) s' (Fin T ej (mY A B))) (Fin T ej (mY A B))):=by
 obtain⟨z1,z2⟩:=Vv (A:=A) hs hV hn2 hnV hnorm hlq
 have hS:0<2^s:=Nat.two_pow_pos _
 refine VI (N:=A*2^s) h0 aa aa aa hnorm (fun i _=>dG) (p7 z1) z2 rfl fun q u s' hu hq hsum hlt hv=>cw ?_
 have hR:val (nl A+1) u=A%B*2^s:=by
  have h1:(A*2^s)%V=val (nl A+1) u:=by
   rw[<-hsum,Nat.mul_comm,Nat.mul_add_mod];exact Nat.mod_eq_of_lt hlt
  rw[<-h1,hV,Nat.mul_mod_mul_right]
 have hQ:val lq q=A/B:=by
  have h1:(A*2^s)/V=val lq q:=by
   rw[<-hsum,Nat.mul_comm,Nat.mul_add_div aa,Nat.div_eq_of_lt hlt];omega
  rw[<-h1,hV,Nat.mul_div_mul_right _ _ hS]
 have hRl:∀i,i<nl (val (nl A+1) u)->u i=aC (val (nl A+1) u) i:=fun i hi=>(pU hu (Nat.lt_of_lt_of_le hi (dm.2 (fD hu)))).symm
 refine aG.j0 (nx:=9) hv h0 ah rfl iR ?_
 show aG P c ej.ntmps [lg] _ _
 refine ay.hole [1,0,1] ah (aG.bz hT zg hm 60 mG Z8 ah ?_)
 simp only[ag.all,aA,jE]
 refine⟨⟨fW hu,trivial,aa⟩,fun s' hv=>cw ?_⟩
 refine UN (lu:=nl A+1) (u:=u) h0 hs aa rfl (dm.2 (fD hu)) hu hRl hv fun w s' hw hval hv=>cw ?_
 refine aG.mono (Q:=Fin T ej (mY A B)) (fun e s' h=>by cases e<;>exact h) ?_
 refine aG.CZ hT gy hm 60 (nx:=9) hv h0 rfl iR afL ah ah ?_
 simp only[ag.all,aA,Nat.add_zero,jE]
 have hll:nl (val (nl A+1) u)<=nl A+1:=dm.2 (fD hu)
 refine⟨⟨fW hq,aa,fW fun i hi=>hw i aa,aa⟩,dD (by rw[hQ]),dD ?_,bJ (by simp[hB0]),trivial⟩
 rw[if_neg hB0,hval,hR,Nat.mul_div_cancel _ hS]
theorem aco {n m:Nat} {z y:Nat->Nat} (hz:∀i,i<n->z i<2^32) (hy:∀i,i<m->y i<2^32) (hn:n<2^40) (hm':m<2^40) (K:Nat) (pre:aE):
  aD P vt K [.aq 1 n (aB z),.aq 1 m (aB y)] pre (aL (mY (val n z) (val m y)) []):=by
 refine jL hT ZE rfl aW rfl (fun _ c h0=>?_) K pre
 have hk0:∀{nx:Nat} k x,c.k0 k=some x->k<nx:=jU h0
 have hA:nl (val n z)<=n:=dm.2 (fD hz)
 have hB:nl (val m y)<=m:=dm.2 (fD hy)
 refine ay.hole mW ah (aG.chunk 2 (aG.bz hT jg hm 60 [0,1,4,5,6] Ub ah ?_))
 simp only[ag.all,aA,jE]
 generalize val n z=A at*
 generalize val m y=B at*
 refine⟨⟨fW hz,aa,fW hy,aa⟩,fun s' hv=>cw ?_⟩
 refine aG.chunk 1 (aG.eW hT jg hm 60 (nx:=0) hv hk0 rfl trivial [0,1,4,5,6] XW ah ah ?_)
 simp only[ag.all,aA,beq_iff_eq,beq_eq_false_iff_ne,ne_eq,bf,bt,Eh]
 have hnl0:nl B=0↔B=0:=⟨fun h=>by
  rcases Nat.eq_zero_or_pos B with h1|h1
  ·exact h1
  ·have:=gd.2 (show B≠0 by omega);omega,fun h=>by subst h;rfl⟩
 refine⟨fun hb s' hv=>?_,fun hb=>⟨⟨aa,aa⟩,fun hlt=>⟨aa,fun s' hv=>?_⟩,fun hge=>⟨fun h1=>?_,fun h1 s' hv=>cw ?_⟩⟩⟩
 ·have hB0:B=0:=hnl0.1 aa
  subst hB0
  refine ff (ff ?_)
  exact gj (us:=[.nil,.nil,.int .i64 3]) (.inr rfl) hv ah ⟨by simpa using kH,kH,bJ (by simp),trivial⟩
 ·have hB0:B≠0:=fun h=>hb (by rw[hnl0.2 h];rfl)
  refine ff (ff ?_)
  refine gj (us:=[.nil,.mag A,.int .i64 0]) (.inr rfl) hv ah ⟨?_,dD ?_,bJ (by simp[hB0]),trivial⟩
  ·rw[Nat.div_eq_of_lt hlt];exact kH
  ·rw[if_neg hB0,Nat.mod_eq_of_lt hlt]
 ·have h1':nl B=1:=aa
  have hB0:B≠0:=fun h=>hb (by rw[hnl0.2 h];rfl)
  have hl0:aC B 0=B:=by
   have:=fS (N:=B)
   rw[h1',val,val]at this
   simpa using this
  have hBlt:B<2^32:=by rw[<-hl0];exact dG
  have hmod:A%B<2^32:=Nat.lt_trans (Nat.mod_lt _ aa) hBlt
  simp only[Int.toNat_zero,hl0,aX]
  have hf:(fun i=>nth [AV.int .u32 ((A%B:Nat):Int)] (.int .u32 0) (i+0))=fun i=>aB (fun i=>if i=0 then A%B else 0) i:=by
   funext i
   cases i with
   |zero=>simp[nth,aB]
   |succ i=>simp[nth,aB]
  rw[hf]
  refine⟨⟨aa,aa,aa,aa⟩,⟨aa,fW (fun i hi=>by split<;>omega),aa⟩,fun s' hv=>ff (ff ?_)⟩
  refine gj (vs:=[.mag A,.mag B,.mag (A/B),.mag (A%B),.int .i64 0]) (os:=[]) (us:=[.mag (A/B),.mag (A%B),.int .i64 0]) (.inr rfl) (dH hv ?_ rfl) ah ⟨.refl _,dD (by rw[if_neg hB0]),bJ (by simp[hB0]),trivial⟩
  simp[val,nth,numOf]
  rw[<-Int.natCast_emod,aX]
 have hB0:B≠0:=fun h=>hb (by rw[hnl0.2 h];rfl)
 have hn2:2<=nl B:=by have:=gd.2 hB0;omega
 rw[List.drop_drop]
 refine Ww h0 aa hn2 aa hv fun s lq V s' hs hV hnV hnorm hlq hle=>cw ?_
 exact ay.lT hle (Tc hk0 aa hB0 hs hV hn2 hnV hnorm hlq)
def FC (A n B m:Nat):cZ:=aL (mY A B) [n<2^40,m<2^40]
theorem PL:∀K args pre r,bM (iu FC) K args pre=some r->aD P vt K args pre r:=
 ct (uX fun _ _ _ _ K hz hy need=>aco hz hy need.1 need.2 K [])
end Go.Am.B
