/- natural.Div: its contract. -/
import Derived.Test.YtolopdkjjlfgjaaGreatB12
set_option linter.unusedVariables false
namespace Go.Am.B
open Go Go.Am.N AV Proofs.Tryz IntKind
abbrev oX (A B:Nat):AV:=.tuple [.mag (A/B),.mag (if B=0 then 0 else A%B),.int .i64 (if B=0 then 3 else 0)]
theorem So {n N:Nat}:fm n (aB (aD N)):=iE fun _ _=>eZ
theorem De {a b:Nat}:dO a b<0↔a<b:=by
 unfold dO
 split
 ·simp_all
 ·split<;>simp_all
theorem cZ {k:aN->Prop} {Q:aq->aN->Prop} {s:aN} (h:k s):fI k Q .normal s:=h
theorem Tz {c:Ctx} (h0:c.k0=bI) {A B:Nat} (hA:nl A<2^40) (hn2:2<=nl B) (hAB:B<=A) {Q:aq->aN->Prop} {s':aN}
  (hv:bE [0,1,4,5,6] s'=some ([.mag A,.mag B,.nil,.nil,.int .i64 0],[]))
  (fin:∀s lq V s',s<32->V=B*2^s->nl V=nl B->2^31<=aD V (nl V-1)->lq+nl V=nl A+1->(∃ρ,Le c ρ s' ⟨aC eC (fW lq s (nl A+1) V ((lq:Int)-1)),dP lq (nl A+1) (fun _=>0) (aD (A*2^s)),9⟩)->Q .normal s'):
  aG P c f168.ntmps ((before (aH f168) nX).drop (2+1)) s' Q:=by
 have hk0:∀{nx:Nat} k x,c.k0 k=some x->k<nx:=kI h0
 have hABn:nl B<=nl A:=iW hAB
 have hB0:B≠0:=fun h=>by subst h;simp[nl]at hn2
 refine aG.chunk 1 (aG.gl hT ke hm 60 (nx:=0) hv hk0 rfl trivial [0,1,9] afx ah ah ?_)
 have w1:i64.wrap ((nl B:Int)-1)=((nl B-1:Nat):Int):=fS aa aa
 rw[w1]
 simp only[ag.all,az,bJ]
 have hlB:=eZ (N:=B) (i:=nl B-1)
 refine⟨⟨aa,aa⟩,fun s' hv=>cZ ?_⟩
 obtain⟨s,hs⟩:∃s,s=32-bV (aD B (nl B-1)):=⟨_,rfl⟩
 rw[<-hs]at hv
 obtain⟨hs32,hnV,hnorm,hVlt⟩:=Ll hB0 hs
 rw[List.drop_drop]
 refine aG.chunk 1 (aG.gl hT ke hm 60 (nx:=0) hv hk0 rfl trivial [9,10,11] aic ah ah ?_)
 simp only[ag.all,az,bJ,Nat.add_zero]
 refine⟨⟨aa,aa,aa,aa,aa,aa,So,aa⟩,fun s' hv=>cZ ?_⟩
 have hV1:(val (nl B+1) fun i=>numOf (aB (aD (B*2^s)) i))=B*2^s:=by
  rw[kY,rM]
  exact Nat.lt_of_lt_of_le hVlt (Nat.pow_le_pow_right aa aa)
 rw[hV1]at hv
 obtain⟨V,hV⟩:∃V,V=B*2^s:=⟨_,rfl⟩
 rw[<-hV]at hv hnV hnorm hVlt
 obtain⟨lq,hlq⟩:∃lq,lq=nl A+1-nl V:=⟨_,rfl⟩
 rw[List.drop_drop]
 refine aG.weak ah (eG (vs:=[.int .i64 s,.own 7 1 0 (nl A+1),.mag V]) (ps:=[(7,⟨true,true,1,nl A+1,aB (aD (A*2^s))⟩)]) (nx:=8) [(7,8192)] hv h0 rfl
  ⟨aS,⟨rfl,eE rfl rfl rfl⟩,aS,trivial⟩ ⟨⟨_,_,rfl,rfl,gI rfl fun j _=>rfl⟩,trivial⟩) ?_
 refine aG.bO hT ke hm 60 eC aiZ ah ?_
 have w2:i64.wrap (((nl A+1:Nat):Int)-(nl V:Int))=((lq:Nat):Int):=fS aa aa
 have w3:i64.wrap ((lq:Int)-1)=(lq:Int)-1:=wrap_i64 aa aa
 rw[w2]
 simp only[ag.all,az,bJ,w3]
 exact⟨aa,fun s' hv=>fin s lq V s' hs32 hV hnV (by rw[hnV];exact hnorm) aa (eG (vs:=fW lq s (nl A+1) V ((lq:Int)-1)) (ps:=dP lq (nl A+1) (fun _=>0) (aD (A*2^s))) (nx:=9) [(7,7),(8,28680)] hv h0 rfl
  ⟨⟨rfl,eE rfl rfl rfl⟩,aS,⟨rfl,eE rfl rfl rfl⟩,aS,aS,aS,trivial⟩
  ⟨⟨_,_,rfl,rfl,gI rfl fun j _=>rfl⟩,⟨_,_,rfl,rfl,gI rfl fun j _=>rfl⟩,trivial⟩)⟩
theorem aaX {A B V s lq:Nat} (hs:s<32) (hV:V=B*2^s) (hn2:2<=nl B) (hnV:nl V=nl B) (hnorm:2^31<=aD V (nl V-1)) (hlq:lq+nl V=nl A+1):A*2^s<2^(32*(nl A+1))/\A*2^s<V*2^(32*lq):=by
 have hS:0<2^s:=Nat.two_pow_pos _
 have hS31:2^s<=2^31:=Nat.pow_le_pow_right aa aa
 have hAl:A<2^(32*nl A):=nY
 have hA2:A*2^s<2^(32*nl A)*2^31:=
  Nat.lt_of_lt_of_le ((Nat.mul_lt_mul_right hS).2 hAl) (Nat.mul_le_mul_left _ hS31)
 have hA3:A*2^s<2^(32*(nl A+1)):=by
  rw[jf];omega
 refine⟨hA3,?_⟩
 have hsp:V=val (nl V-1) (aD V)+aD V (nl V-1)*2^(32*(nl V-1)):=by
  have:=iB (N:=V)
  obtain⟨k,hk⟩:∃k,nl V=k+1:=⟨nl V-1,aa⟩
  rw[hk,val]at this
  rw[hk,Nat.add_sub_cancel]
  exact this.symm
 have h2:2^31*2^(32*(nl V-1))<=V:=by
  have:=Nat.mul_le_mul_right (2^(32*(nl V-1))) hnorm
  omega
 have h3:=Nat.mul_le_mul_right (2^(32*lq)) h2
 have e:2^31*2^(32*(nl V-1))*2^(32*lq)=2^(32*nl A)*2^31:=by
  rw[Nat.mul_assoc,<-Nat.pow_add,Nat.mul_comm]
  congr 2
  omega
 omega
theorem aaL {c:Ctx} (h0:∀k x,c.k0 k=some x->k<9) {A B V s lq:Nat} (hA:nl A<2^40) (hB0:B≠0) (hs:s<32) (hV:V=B*2^s) (hn2:2<=nl B) (hnV:nl V=nl B) (hnorm:2^31<=aD V (nl V-1)) (hlq:lq+nl V=nl A+1):
  ax P c f168.ntmps (part (aH f168) nX) ⟨aC eC (fW lq s (nl A+1) V ((lq:Int)-1)),dP lq (nl A+1) (fun _=>0) (aD (A*2^s)),9⟩
   (fI (fun s'=>aG P c f168.ntmps (behind (aH f168) nX) s' (Fin T f168 (oX A B))) (Fin T f168 (oX A B))):=by
 obtain⟨z1,z2⟩:=aaX (A:=A) hs hV hn2 hnV hnorm hlq
 have hS:0<2^s:=Nat.two_pow_pos _
 refine aei (N:=A*2^s) h0 aa aa aa hnorm (fun i _=>eZ) (rM z1) z2 rfl fun q u s' hu hq hsum hlt hv=>cZ ?_
 have hR:val (nl A+1) u=A%B*2^s:=by
  have h1:(A*2^s)%V=val (nl A+1) u:=by
   rw[<-hsum,Nat.mul_comm,Nat.mul_add_mod];exact Nat.mod_eq_of_lt hlt
  rw[<-h1,hV,Nat.mul_mod_mul_right]
 have hQ:val lq q=A/B:=by
  have h1:(A*2^s)/V=val lq q:=by
   rw[<-hsum,Nat.mul_comm,Nat.mul_add_div aa,Nat.div_eq_of_lt hlt];omega
  rw[<-h1,hV,Nat.mul_div_mul_right _ _ hS]
 have hRl:∀i,i<nl (val (nl A+1) u)->u i=aD (val (nl A+1) u) i:=fun i hi=>(qY hu (Nat.lt_of_lt_of_le hi (eA.2 (g7 hu)))).symm
 refine aG.lz (nx:=9) hv h0 ah rfl jV ?_
 show aG P c f168.ntmps [mN] _ _
 refine ax.hole [1,0,1] ah (aG.bO hT xk hm 60 nr ahH ah ?_)
 simp only[ag.all,az,kY]
 refine⟨⟨iE hu,trivial,aa⟩,fun s' hv=>cZ ?_⟩
 refine Ww (lu:=nl A+1) (u:=u) h0 hs aa rfl (eA.2 (g7 hu)) hu hRl hv fun w s' hw hval hv=>cZ ?_
 refine aG.mono (Q:=Fin T f168 (oX A B)) (fun e s' h=>by cases e<;>exact h) ?_
 refine aG.C5 hT iT hm 60 (nx:=9) hv h0 rfl jV aaU ah ah ?_
 simp only[ag.all,az,Nat.add_zero,kY]
 have hll:nl (val (nl A+1) u)<=nl A+1:=eA.2 (g7 hu)
 refine⟨⟨iE hq,aa,iE fun i hi=>hw i aa,aa⟩,fk (by rw[hQ]),fk ?_,cw (by simp[hB0]),trivial⟩
 rw[if_neg hB0,hval,hR,Nat.mul_div_cancel _ hS]
theorem afQ {n m:Nat} {z y:Nat->Nat} (hz:∀i,i<n->z i<2^32) (hy:∀i,i<m->y i<2^32) (hn:n<2^40) (hm':m<2^40) (K:Nat) (pre:aE):
  aQ P 168 K [.ak 1 n (aB z),.ak 1 m (aB y)] pre (aL (oX (val n z) (val m y)) []):=by
 refine kO hT XY rfl aX rfl (fun _ c h0=>?_) K pre
 have hk0:∀{nx:Nat} k x,c.k0 k=some x->k<nx:=kI h0
 have hA:nl (val n z)<=n:=eA.2 (g7 hz)
 have hB:nl (val m y)<=m:=eA.2 (g7 hy)
 refine ax.hole nX ah (aG.chunk 2 (aG.bO hT ke hm 60 [0,1,4,5,6] aiY ah ?_))
 simp only[ag.all,az,kY]
 generalize val n z=A at*
 generalize val m y=B at*
 refine⟨⟨iE hz,aa,iE hy,aa⟩,fun s' hv=>cZ ?_⟩
 refine aG.chunk 1 (aG.gl hT ke hm 60 (nx:=0) hv hk0 rfl trivial [0,1,4,5,6] ahK ah ah ?_)
 simp only[ag.all,az,beq_iff_eq,beq_eq_false_iff_ne,ne_eq,bB,bD,De]
 have hnl0:nl B=0↔B=0:=⟨fun h=>by
  rcases Nat.eq_zero_or_pos B with h1|h1
  ·exact h1
  ·have:=iF.2 (show B≠0 by omega);omega,fun h=>by subst h;rfl⟩
 refine⟨fun hb s' hv=>?_,fun hb=>⟨⟨aa,aa⟩,fun hlt=>⟨aa,fun s' hv=>?_⟩,fun hge=>⟨fun h1=>?_,fun h1 s' hv=>cZ ?_⟩⟩⟩
 ·have hB0:B=0:=hnl0.1 aa
  subst hB0
  refine gy (gy ?_)
  exact iP (us:=[.nil,.nil,.int .i64 3]) (.inr rfl) hv ah ⟨by simpa using l9,l9,cw (by simp),trivial⟩
 ·have hB0:B≠0:=fun h=>hb (by rw[hnl0.2 h];rfl)
  refine gy (gy ?_)
  refine iP (us:=[.nil,.mag A,.int .i64 0]) (.inr rfl) hv ah ⟨?_,fk ?_,cw (by simp[hB0]),trivial⟩
  ·rw[Nat.div_eq_of_lt hlt];exact l9
  ·rw[if_neg hB0,Nat.mod_eq_of_lt hlt]
 ·have h1':nl B=1:=aa
  have hB0:B≠0:=fun h=>hb (by rw[hnl0.2 h];rfl)
  have hl0:aD B 0=B:=by
   have:=iB (N:=B)
   rw[h1',val,val]at this
   simpa using this
  have hBlt:B<2^32:=by rw[<-hl0];exact eZ
  have hmod:A%B<2^32:=Nat.lt_trans (Nat.mod_lt _ aa) hBlt
  simp only[Int.toNat_zero,hl0,bJ]
  have hf:(fun i=>nth [AV.int .u32 ((A%B:Nat):Int)] (.int .u32 0) (i+0))=fun i=>aB (fun i=>if i=0 then A%B else 0) i:=by
   funext i
   cases i with
   |zero=>simp[nth,aB]
   |succ i=>simp[nth,aB]
  rw[hf]
  refine⟨⟨aa,aa,aa,aa⟩,⟨aa,iE (fun i hi=>by split<;>omega),aa⟩,fun s' hv=>gy (gy ?_)⟩
  refine iP (vs:=[.mag A,.mag B,.mag (A/B),.mag (A%B),.int .i64 0]) (os:=[]) (us:=[.mag (A/B),.mag (A%B),.int .i64 0]) (.inr rfl) (fe hv ?_ rfl) ah ⟨.refl _,fk (by rw[if_neg hB0]),cw (by simp[hB0]),trivial⟩
  simp[val,nth,numOf]
  rw[<-Int.natCast_emod,bJ]
 have hB0:B≠0:=fun h=>hb (by rw[hnl0.2 h];rfl)
 have hn2:2<=nl B:=by have:=iF.2 hB0;omega
 rw[List.drop_drop]
 refine Tz h0 aa hn2 aa hv fun s lq V s' hs hV hnV hnorm hlq hle=>cZ ?_
 exact ax.nT hle (aaL hk0 aa hB0 hs hV hn2 hnV hnorm hlq)
def DY (A n B m:Nat):ep:=aL (oX A B) [n<2^40,m<2^40]
theorem QB:aY P (cu (jw DY)) 168:=
 cW (uT fun _ _ _ _ K hz hy need=>afQ hz hy need.1 need.2 K [])
end Go.Am.B
