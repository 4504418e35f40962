/- natural.Div: its contract. -/
import Derived.Test.YtolopdkjjlfgjaaGreatB12
set_option linter.unusedVariables false
namespace Go.Am.B
open Go Go.Am.N AV Proofs.Tryz IntKind
abbrev mR (A B:Nat):AV:=.tuple [.mag (A/B),.mag (if B=0 then 0 else A%B),.int .i64 (if B=0 then 3 else 0)]
theorem TO {n N:Nat}:ew n (aA (aB N)):=gv fun _ _=>dS
theorem z6 {a b:Nat}:cV a b<0↔a<b:=by
 unfold cV
 split
 ·simp_all
 ·split<;>simp_all
theorem cD {k:aI->Prop} {Q:aq->aI->Prop} {s:aI} (h:k s):eR k Q .normal s:=h
theorem Wq {c:Ctx} (h0:c.k0=bt) {A B:Nat} (hA:nl A<2^40) (hn2:2<=nl B) (hAB:B<=A) {Q:aq->aI->Prop} {s':aI}
  (hv:bk [0,1,4,5,6] s'=some ([.mag A,.mag B,.nil,.nil,.int .i64 0],[]))
  (fin:∀s lq V s',s<32->V=B*2^s->nl V=nl B->2^31<=aB V (nl V-1)->lq+nl V=nl A+1->(∃ρ,Le c ρ s' ⟨aD dw (fm lq s (nl A+1) V ((lq:Int)-1)),cU lq (nl A+1) (fun _=>0) (aB (A*2^s)),9⟩)->Q .normal s'):
  aF P c f168.ntmps ((before (aG f168) mW).drop (2+1)) s' Q:=by
 have hk0:∀{nx:Nat} k x,c.k0 k=some x->k<nx:=jJ h0
 have hABn:nl B<=nl A:=hH hAB
 have hB0:B≠0:=fun h=>by subst h;simp[nl]at hn2
 refine aF.chunk 1 (aF.fE hT jt hm 60 (nx:=0) hv hk0 rfl trivial [0,1,9] VK ag ag ?_)
 have w1:i64.wrap ((nl B:Int)-1)=((nl B-1:Nat):Int):=fk aa aa
 rw[w1]
 simp only[af.all,az,bu]
 have hlB:=dS (N:=B) (i:=nl B-1)
 refine⟨⟨aa,aa⟩,fun s' hv=>cD ?_⟩
 obtain⟨s,hs⟩:∃s,s=32-bI (aB B (nl B-1)):=⟨_,rfl⟩
 rw[<-hs]at hv
 obtain⟨hs32,hnV,hnorm,hVlt⟩:=MU hB0 hs
 rw[List.drop_drop]
 refine aF.chunk 1 (aF.fE hT jt hm 60 (nx:=0) hv hk0 rfl trivial [9,10,11] abW ag ag ?_)
 simp only[af.all,az,bu,Nat.add_zero]
 refine⟨⟨aa,aa,aa,aa,aa,aa,TO,aa⟩,fun s' hv=>cD ?_⟩
 have hV1:(val (nl B+1) fun i=>numOf (aA (aB (B*2^s)) i))=B*2^s:=by
  rw[jO,pn]
  exact Nat.lt_of_lt_of_le hVlt (Nat.pow_le_pow_right aa aa)
 rw[hV1]at hv
 obtain⟨V,hV⟩:∃V,V=B*2^s:=⟨_,rfl⟩
 rw[<-hV]at hv hnV hnorm hVlt
 obtain⟨lq,hlq⟩:∃lq,lq=nl A+1-nl V:=⟨_,rfl⟩
 rw[List.drop_drop]
 refine aF.weak ag (dD (vs:=[.int .i64 s,.own 7 1 0 (nl A+1),.mag V]) (ps:=[(7,⟨true,true,1,nl A+1,aA (aB (A*2^s))⟩)]) (nx:=8) [(7,8192)] hv h0 rfl
  ⟨aN,⟨rfl,dK rfl rfl rfl⟩,aN,trivial⟩ ⟨⟨_,_,rfl,rfl,fS rfl fun j _=>rfl⟩,trivial⟩) ?_
 refine aF.bF hT jt hm 60 dw RJ ag ?_
 have w2:i64.wrap (((nl A+1:Nat):Int)-(nl V:Int))=((lq:Nat):Int):=fk aa aa
 have w3:i64.wrap ((lq:Int)-1)=(lq:Int)-1:=wrap_i64 aa aa
 rw[w2]
 simp only[af.all,az,bu,w3]
 exact⟨aa,fun s' hv=>fin s lq V s' hs32 hV hnV (by rw[hnV];exact hnorm) aa (dD (vs:=fm lq s (nl A+1) V ((lq:Int)-1)) (ps:=cU lq (nl A+1) (fun _=>0) (aB (A*2^s))) (nx:=9) [(7,7),(8,28680)] hv h0 rfl
  ⟨⟨rfl,dK rfl rfl rfl⟩,aN,⟨rfl,dK rfl rfl rfl⟩,aN,aN,aN,trivial⟩
  ⟨⟨_,_,rfl,rfl,fS rfl fun j _=>rfl⟩,⟨_,_,rfl,rfl,fS rfl fun j _=>rfl⟩,trivial⟩)⟩
theorem UI {A B V s lq:Nat} (hs:s<32) (hV:V=B*2^s) (hn2:2<=nl B) (hnV:nl V=nl B) (hnorm:2^31<=aB V (nl V-1)) (hlq:lq+nl V=nl A+1):A*2^s<2^(32*(nl A+1))/\A*2^s<V*2^(32*lq):=by
 have hS:0<2^s:=Nat.two_pow_pos _
 have hS31:2^s<=2^31:=Nat.pow_le_pow_right aa aa
 have hAl:A<2^(32*nl A):=nj
 have hA2:A*2^s<2^(32*nl A)*2^31:=
  Nat.lt_of_lt_of_le ((Nat.mul_lt_mul_right hS).2 hAl) (Nat.mul_le_mul_left _ hS31)
 have hA3:A*2^s<2^(32*(nl A+1)):=by
  rw[iC];omega
 refine⟨hA3,?_⟩
 have hsp:V=val (nl V-1) (aB V)+aB V (nl V-1)*2^(32*(nl V-1)):=by
  have:=gq (N:=V)
  obtain⟨k,hk⟩:∃k,nl V=k+1:=⟨nl V-1,aa⟩
  rw[hk,val]at this
  rw[hk,Nat.add_sub_cancel]
  exact this.symm
 have h2:2^31*2^(32*(nl V-1))<=V:=by
  have:=Nat.mul_le_mul_right (2^(32*(nl V-1))) hnorm
  omega
 have h3:=Nat.mul_le_mul_right (2^(32*lq)) h2
 have e:2^31*2^(32*(nl V-1))*2^(32*lq)=2^(32*nl A)*2^31:=by
  rw[Nat.mul_assoc,<-Nat.pow_add,Nat.mul_comm]
  congr 2
  omega
 omega
theorem VV {c:Ctx} (h0:∀k x,c.k0 k=some x->k<9) {A B V s lq:Nat} (hA:nl A<2^40) (hB0:B≠0) (hs:s<32) (hV:V=B*2^s) (hn2:2<=nl B) (hnV:nl V=nl B) (hnorm:2^31<=aB V (nl V-1)) (hlq:lq+nl V=nl A+1):
  au P c f168.ntmps (part (aG f168) mW) ⟨aD dw (fm lq s (nl A+1) V ((lq:Int)-1)),cU lq (nl A+1) (fun _=>0) (aB (A*2^s)),9⟩
   (eR (fun s'=>aF P c f168.ntmps (behind (aG f168) mW) s' (Fin T f168 (mR A B))) (Fin T f168 (mR A B))):=by
 obtain⟨z1,z2⟩:=UI (A:=A) hs hV hn2 hnV hnorm hlq
 have hS:0<2^s:=Nat.two_pow_pos _
 refine VY (N:=A*2^s) h0 aa aa aa hnorm (fun i _=>dS) (pn z1) z2 rfl fun q u s' hu hq hsum hlt hv=>cD ?_
 have hR:val (nl A+1) u=A%B*2^s:=by
  have h1:(A*2^s)%V=val (nl A+1) u:=by
   rw[<-hsum,Nat.mul_comm,Nat.mul_add_mod];exact Nat.mod_eq_of_lt hlt
  rw[<-h1,hV,Nat.mul_mod_mul_right]
 have hQ:val lq q=A/B:=by
  have h1:(A*2^s)/V=val lq q:=by
   rw[<-hsum,Nat.mul_comm,Nat.mul_add_div aa,Nat.div_eq_of_lt hlt];omega
  rw[<-h1,hV,Nat.mul_div_mul_right _ _ hS]
 have hRl:∀i,i<nl (val (nl A+1) u)->u i=aB (val (nl A+1) u) i:=fun i hi=>(oV hu (Nat.lt_of_lt_of_le hi (dB.2 (fY hu)))).symm
 refine aF.j8 (nx:=9) hv h0 ag rfl ji ?_
 show aF P c f168.ntmps [lC] _ _
 refine au.hole [1,0,1] ag (aF.bF hT wT hm 60 mb aco ag ?_)
 simp only[af.all,az,jO]
 refine⟨⟨gv hu,trivial,aa⟩,fun s' hv=>cD ?_⟩
 refine aau (lu:=nl A+1) (u:=u) h0 hs aa rfl (dB.2 (fY hu)) hu hRl hv fun w s' hw hval hv=>cD ?_
 refine aF.mono (Q:=Fin T f168 (mR A B)) (fun e s' h=>by cases e<;>exact h) ?_
 refine aF.Ad hT gR hm 60 (nx:=9) hv h0 rfl ji ac1 ag ag ?_
 simp only[af.all,az,Nat.add_zero,jO]
 have hll:nl (val (nl A+1) u)<=nl A+1:=dB.2 (fY hu)
 refine⟨⟨gv hq,aa,gv fun i hi=>hw i aa,aa⟩,en (by rw[hQ]),en ?_,bQ (by simp[hB0]),trivial⟩
 rw[if_neg hB0,hval,hR,Nat.mul_div_cancel _ hS]
theorem P0 {n m:Nat} {z y:Nat->Nat} (hz:∀i,i<n->z i<2^32) (hy:∀i,i<m->y i<2^32) (hn:n<2^40) (hm':m<2^40) (K:Nat) (pre:aE):
  aO P 168 K [.ak 1 n (aA z),.ak 1 m (aA y)] pre (aJ (mR (val n z) (val m y)) []):=by
 refine jU hT aaa rfl aW rfl (fun _ c h0=>?_) K pre
 have hk0:∀{nx:Nat} k x,c.k0 k=some x->k<nx:=jJ h0
 have hA:nl (val n z)<=n:=dB.2 (fY hz)
 have hB:nl (val m y)<=m:=dB.2 (fY hy)
 refine au.hole mW ag (aF.chunk 2 (aF.bF hT jt hm 60 [0,1,4,5,6] UP ag ?_))
 simp only[af.all,az,jO]
 generalize val n z=A at*
 generalize val m y=B at*
 refine⟨⟨gv hz,aa,gv hy,aa⟩,fun s' hv=>cD ?_⟩
 refine aF.chunk 1 (aF.fE hT jt hm 60 (nx:=0) hv hk0 rfl trivial [0,1,4,5,6] TE ag ag ?_)
 simp only[af.all,az,beq_iff_eq,beq_eq_false_iff_ne,ne_eq,bz,bE,z6]
 have hnl0:nl B=0↔B=0:=⟨fun h=>by
  rcases Nat.eq_zero_or_pos B with h1|h1
  ·exact h1
  ·have:=gI.2 (show B≠0 by omega);omega,fun h=>by subst h;rfl⟩
 refine⟨fun hb s' hv=>?_,fun hb=>⟨⟨aa,aa⟩,fun hlt=>⟨aa,fun s' hv=>?_⟩,fun hge=>⟨fun h1=>?_,fun h1 s' hv=>cD ?_⟩⟩⟩
 ·have hB0:B=0:=hnl0.1 aa
  subst hB0
  refine fH (fH ?_)
  exact gN (us:=[.nil,.nil,.int .i64 3]) (.inr rfl) hv ag ⟨by simpa using kT,kT,bQ (by simp),trivial⟩
 ·have hB0:B≠0:=fun h=>hb (by rw[hnl0.2 h];rfl)
  refine fH (fH ?_)
  refine gN (us:=[.nil,.mag A,.int .i64 0]) (.inr rfl) hv ag ⟨?_,en ?_,bQ (by simp[hB0]),trivial⟩
  ·rw[Nat.div_eq_of_lt hlt];exact kT
  ·rw[if_neg hB0,Nat.mod_eq_of_lt hlt]
 ·have h1':nl B=1:=aa
  have hB0:B≠0:=fun h=>hb (by rw[hnl0.2 h];rfl)
  have hl0:aB B 0=B:=by
   have:=gq (N:=B)
   rw[h1',val,val]at this
   simpa using this
  have hBlt:B<2^32:=by rw[<-hl0];exact dS
  have hmod:A%B<2^32:=Nat.lt_trans (Nat.mod_lt _ aa) hBlt
  simp only[Int.toNat_zero,hl0,bu]
  have hf:(fun i=>nth [AV.int .u32 ((A%B:Nat):Int)] (.int .u32 0) (i+0))=fun i=>aA (fun i=>if i=0 then A%B else 0) i:=by
   funext i
   cases i with
   |zero=>simp[nth,aA]
   |succ i=>simp[nth,aA]
  rw[hf]
  refine⟨⟨aa,aa,aa,aa⟩,⟨aa,gv (fun i hi=>by split<;>omega),aa⟩,fun s' hv=>fH (fH ?_)⟩
  refine gN (vs:=[.mag A,.mag B,.mag (A/B),.mag (A%B),.int .i64 0]) (os:=[]) (us:=[.mag (A/B),.mag (A%B),.int .i64 0]) (.inr rfl) (ef hv ?_ rfl) ag ⟨.refl _,en (by rw[if_neg hB0]),bQ (by simp[hB0]),trivial⟩
  simp[val,nth,numOf]
  rw[<-Int.natCast_emod,bu]
 have hB0:B≠0:=fun h=>hb (by rw[hnl0.2 h];rfl)
 have hn2:2<=nl B:=by have:=gI.2 hB0;omega
 rw[List.drop_drop]
 refine Wq h0 aa hn2 aa hv fun s lq V s' hs hV hnV hnorm hlq hle=>cD ?_
 exact au.lX hle (VV hk0 aa hB0 hs hV hn2 hnV hnorm hlq)
def EA (A n B m:Nat):dr:=aJ (mR A B) [n<2^40,m<2^40]
theorem Mi:bf P (bR (jc EA)) 168:=
 cE (rP fun _ _ _ _ K hz hy need=>P0 hz hy need.1 need.2 K [])
end Go.Am.B
