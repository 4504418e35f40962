/- natural.Div: its contract. -/
import Derived.Test.YtnniljlepppdpaaGreatB12
set_option linter.unusedVariables false
namespace Go.Am.B
open Go Go.Am.N AV
abbrev oL (A B:Nat):AV:=.tuple [.mag (A/B),.mag (if B=0 then 0 else A%B),.int .i64 (if B=0 then 3 else 0)]
theorem ajJ {n N:Nat}:ek n (aD (aF N)):=gF fun _ _=>dL
theorem Ew {a b:Nat}:dh a b<0↔a<b:=by
 unfold dh
 split
 ·simp_all
 ·split<;>simp_all
theorem cO {k:aK->Prop} {Q:ax->aK->Prop} {s:aK} (h:k s):dM k Q .normal s:=h
theorem agn {c:Ctx} (h0:c.k0=bE) {A B:Nat} (hA:nl A<2^40) (hn2:2<=nl B) (hAB:B<=A) {Q:ax->aK->Prop} {s':aK}
  (hv:bA [0,1,4,5,6] s'=some ([.mag A,.mag B,.nil,.nil,.int .i64 0],[]))
  (fin:∀s lq V s',s<32->V=B*2^s->nl V=nl B->2^31<=aF V (nl V-1)->lq+nl V=nl A+1->(∃ρ,Le c ρ s' ⟨aB dy (fu lq s (nl A+1) V ((lq:Int)-1)),dg lq (nl A+1) (fun _=>0) (aF (A*2^s)),9⟩)->Q .normal s'):
  aH P c eJ.ntmps ((before (ay eJ) od).drop (2+1)) s' Q:=by
 have hk0:∀{nx:Nat} k x,c.k0 k=some x->k<nx:=kD h0
 have hABn:nl B<=nl A:=iH hAB
 have hB0:B≠0:=fun h=>by subst h;simp[nl]at hn2
 refine aH.chunk 1 (aH.fJ hT j0 hm 60 (nx:=0) hv hk0 rfl trivial [0,1,9] Zr ag ag ?_)
 have w1:IntKind.i64.wrap ((nl B:Int)-1)=((nl B-1:Nat):Int):=fm aa aa
 rw[w1]
 simp only[ah.all,aA,bn]
 have hlB:=dL (N:=B) (i:=nl B-1)
 refine⟨⟨aa,aa⟩,fun s' hv=>cO ?_⟩
 obtain⟨s,hs⟩:∃s,s=32-bQ (aF B (nl B-1)):=⟨_,rfl⟩
 rw[<-hs]at hv
 obtain⟨hs32,hnV,hnorm,hVlt⟩:=QS hB0 hs
 rw[List.drop_drop]
 refine aH.chunk 1 (aH.fJ hT j0 hm 60 (nx:=0) hv hk0 rfl trivial [9,10,11] agm ag ag ?_)
 simp only[ah.all,aA,bn,Nat.add_zero]
 refine⟨⟨aa,aa,aa,aa,aa,aa,ajJ,aa⟩,fun s' hv=>cO ?_⟩
 have hV1:(val (nl B+1) fun i=>numOf (aD (aF (B*2^s)) i))=B*2^s:=by
  rw[kg,qN]
  exact Nat.lt_of_lt_of_le hVlt (Nat.pow_le_pow_right aa aa)
 rw[hV1]at hv
 obtain⟨V,hV⟩:∃V,V=B*2^s:=⟨_,rfl⟩
 rw[<-hV]at hv hnV hnorm hVlt
 obtain⟨lq,hlq⟩:∃lq,lq=nl A+1-nl V:=⟨_,rfl⟩
 rw[List.drop_drop]
 refine aH.weak ag (dH (vs:=[.int .i64 s,.own 7 1 0 (nl A+1),.mag V]) (ps:=[(7,⟨true,true,1,nl A+1,aD (aF (A*2^s))⟩)]) (nx:=8) [(7,8192)] hv h0 rfl
  ⟨aM,⟨rfl,bW rfl rfl rfl⟩,aM,trivial⟩ ⟨⟨_,_,rfl,rfl,fS rfl fun j _=>rfl⟩,trivial⟩) ?_
 refine aH.bC hT j0 hm 60 dy abf ag ?_
 have w2:IntKind.i64.wrap (((nl A+1:Nat):Int)-(nl V:Int))=((lq:Nat):Int):=fm aa aa
 have w3:IntKind.i64.wrap ((lq:Int)-1)=(lq:Int)-1:=wrap_i64 aa aa
 rw[w2]
 simp only[ah.all,aA,bn,w3]
 exact⟨aa,fun s' hv=>fin s lq V s' hs32 hV hnV (by rw[hnV];exact hnorm) aa (dH (vs:=fu lq s (nl A+1) V ((lq:Int)-1)) (ps:=dg lq (nl A+1) (fun _=>0) (aF (A*2^s))) (nx:=9) [(7,7),(8,28680)] hv h0 rfl
  ⟨⟨rfl,bW rfl rfl rfl⟩,aM,⟨rfl,bW rfl rfl rfl⟩,aM,aM,aM,trivial⟩
  ⟨⟨_,_,rfl,rfl,fS rfl fun j _=>rfl⟩,⟨_,_,rfl,rfl,fS rfl fun j _=>rfl⟩,trivial⟩)⟩
theorem alb {A B V s lq:Nat} (hs:s<32) (hV:V=B*2^s) (hn2:2<=nl B) (hnV:nl V=nl B) (hnorm:2^31<=aF V (nl V-1)) (hlq:lq+nl V=nl A+1):A*2^s<2^(32*(nl A+1))/\A*2^s<V*2^(32*lq):=by
 have hS:0<2^s:=Nat.two_pow_pos _
 have hS31:2^s<=2^31:=Nat.pow_le_pow_right aa aa
 have hAl:A<2^(32*nl A):=oE
 have hA2:A*2^s<2^(32*nl A)*2^31:=
  Nat.lt_of_lt_of_le ((Nat.mul_lt_mul_right hS).2 hAl) (Nat.mul_le_mul_left _ hS31)
 have hA3:A*2^s<2^(32*(nl A+1)):=by
  rw[iG];omega
 refine⟨hA3,?_⟩
 have hsp:V=val (nl V-1) (aF V)+aF V (nl V-1)*2^(32*(nl V-1)):=by
  have:=gA (N:=V)
  obtain⟨k,hk⟩:∃k,nl V=k+1:=⟨nl V-1,aa⟩
  rw[hk,val]at this
  rw[hk,Nat.add_sub_cancel]
  exact this.symm
 have h2:2^31*2^(32*(nl V-1))<=V:=by
  have:=Nat.mul_le_mul_right (2^(32*(nl V-1))) hnorm
  omega
 have h3:=Nat.mul_le_mul_right (2^(32*lq)) h2
 have e:2^31*2^(32*(nl V-1))*2^(32*lq)=2^(32*nl A)*2^31:=by
  rw[Nat.mul_assoc,<-Nat.pow_add,Nat.mul_comm]
  congr 2
  omega
 omega
theorem amr {c:Ctx} (h0:∀k x,c.k0 k=some x->k<9) {A B V s lq:Nat} (hA:nl A<2^40) (hB0:B≠0) (hs:s<32) (hV:V=B*2^s) (hn2:2<=nl B) (hnV:nl V=nl B) (hnorm:2^31<=aF V (nl V-1)) (hlq:lq+nl V=nl A+1):
  au P c eJ.ntmps (part (ay eJ) od) ⟨aB dy (fu lq s (nl A+1) V ((lq:Int)-1)),dg lq (nl A+1) (fun _=>0) (aF (A*2^s)),9⟩
   (dM (fun s'=>aH P c eJ.ntmps (behind (ay eJ) od) s' (Fin T eJ (oL A B))) (Fin T eJ (oL A B))):=by
 obtain⟨z1,z2⟩:=alb (A:=A) hs hV hn2 hnV hnorm hlq
 have hS:0<2^s:=Nat.two_pow_pos _
 refine aoa (N:=A*2^s) h0 aa aa aa hnorm (fun i _=>dL) (qN z1) z2 rfl fun q u s' hu hq hsum hlt hv=>cO ?_
 have hR:val (nl A+1) u=A%B*2^s:=by
  have h1:(A*2^s)%V=val (nl A+1) u:=by
   rw[<-hsum,Nat.mul_comm,Nat.mul_add_mod];exact Nat.mod_eq_of_lt hlt
  rw[<-h1,hV,Nat.mul_mod_mul_right]
 have hQ:val lq q=A/B:=by
  have h1:(A*2^s)/V=val lq q:=by
   rw[<-hsum,Nat.mul_comm,Nat.mul_add_div aa,Nat.div_eq_of_lt hlt];omega
  rw[<-h1,hV,Nat.mul_div_mul_right _ _ hS]
 have hRl:∀i,i<nl (val (nl A+1) u)->u i=aF (val (nl A+1) u) i:=fun i hi=>(qb hu (Nat.lt_of_lt_of_le hi (dF.2 (gp hu)))).symm
 refine aH.kK (nx:=9) hv h0 ag rfl jA ?_
 show aH P c eJ.ntmps [l9] _ _
 refine au.hole [1,0,1] ag (aH.bC hT AI hm 60 nC ak2 ag ?_)
 simp only[ah.all,aA,kg]
 refine⟨⟨gF hu,trivial,aa⟩,fun s' hv=>cO ?_⟩
 refine ag1 (lu:=nl A+1) (u:=u) h0 hs aa rfl (dF.2 (gp hu)) hu hRl hv fun w s' hw hval hv=>cO ?_
 refine aH.mono (Q:=Fin T eJ (oL A B)) (fun e s' h=>by cases e<;>exact h) ?_
 refine aH.Dx hT gR hm 60 (nx:=9) hv h0 rfl jA aaN ag ag ?_
 simp only[ah.all,aA,Nat.add_zero,kg]
 have hll:nl (val (nl A+1) u)<=nl A+1:=dF.2 (gp hu)
 refine⟨⟨gF hq,aa,gF fun i hi=>hw i aa,aa⟩,dO (by rw[hQ]),dO ?_,bK (by simp[hB0]),trivial⟩
 rw[if_neg hB0,hval,hR,Nat.mul_div_cancel _ hS]
theorem am5 {n m:Nat} {z y:Nat->Nat} (hz:∀i,i<n->z i<2^32) (hy:∀i,i<m->y i<2^32) (hn:n<2^40) (hm':m<2^40) (K:Nat) (pre:aE):
  aQ P xT K [.aq 1 n (aD z),.aq 1 m (aD y)] pre (aJ (oL (val n z) (val m y)) []):=by
 refine j9 hT ahO rfl aX rfl (fun _ c h0=>?_) K pre
 have hk0:∀{nx:Nat} k x,c.k0 k=some x->k<nx:=kD h0
 have hA:nl (val n z)<=n:=dF.2 (gp hz)
 have hB:nl (val m y)<=m:=dF.2 (gp hy)
 refine au.hole od ag (aH.chunk 2 (aH.bC hT j0 hm 60 [0,1,4,5,6] acF ag ?_))
 simp only[ah.all,aA,kg]
 generalize val n z=A at*
 generalize val m y=B at*
 refine⟨⟨gF hz,aa,gF hy,aa⟩,fun s' hv=>cO ?_⟩
 refine aH.chunk 1 (aH.fJ hT j0 hm 60 (nx:=0) hv hk0 rfl trivial [0,1,4,5,6] aa3 ag ag ?_)
 simp only[ah.all,aA,beq_iff_eq,beq_eq_false_iff_ne,ne_eq,bq,bw,Ew]
 have hnl0:nl B=0↔B=0:=⟨fun h=>by
  rcases Nat.eq_zero_or_pos B with h1|h1
  ·exact h1
  ·have:=gJ.2 (show B≠0 by omega);omega,fun h=>by subst h;rfl⟩
 refine⟨fun hb s' hv=>?_,fun hb=>⟨⟨aa,aa⟩,fun hlt=>⟨aa,fun s' hv=>?_⟩,fun hge=>⟨fun h1=>?_,fun h1 s' hv=>cO ?_⟩⟩⟩
 ·have hB0:B=0:=hnl0.1 aa
  subst hB0
  refine fM (fM ?_)
  exact gQ (us:=[.nil,.nil,.int .i64 3]) (.inr rfl) hv ag ⟨by simpa using lJ,lJ,bK (by simp),trivial⟩
 ·have hB0:B≠0:=fun h=>hb (by rw[hnl0.2 h];rfl)
  refine fM (fM ?_)
  refine gQ (us:=[.nil,.mag A,.int .i64 0]) (.inr rfl) hv ag ⟨?_,dO ?_,bK (by simp[hB0]),trivial⟩
  ·rw[Nat.div_eq_of_lt hlt];exact lJ
  ·rw[if_neg hB0,Nat.mod_eq_of_lt hlt]
 ·have h1':nl B=1:=aa
  have hB0:B≠0:=fun h=>hb (by rw[hnl0.2 h];rfl)
  have hl0:aF B 0=B:=by
   have:=gA (N:=B)
   rw[h1',val,val]at this
   simpa using this
  have hBlt:B<2^32:=by rw[<-hl0];exact dL
  have hmod:A%B<2^32:=Nat.lt_trans (Nat.mod_lt _ aa) hBlt
  simp only[Int.toNat_zero,hl0,bn]
  have hf:(fun i=>nth [AV.int .u32 ((A%B:Nat):Int)] (.int .u32 0) (i+0))=fun i=>aD (fun i=>if i=0 then A%B else 0) i:=by
   funext i
   cases i with
   |zero=>simp[nth,aD]
   |succ i=>simp[nth,aD]
  rw[hf]
  refine⟨⟨aa,aa,aa,aa⟩,⟨aa,gF (fun i hi=>by split<;>omega),aa⟩,fun s' hv=>fM (fM ?_)⟩
  refine gQ (vs:=[.mag A,.mag B,.mag (A/B),.mag (A%B),.int .i64 0]) (os:=[]) (us:=[.mag (A/B),.mag (A%B),.int .i64 0]) (.inr rfl) (dQ hv ?_ rfl) ag ⟨.refl _,dO (by rw[if_neg hB0]),bK (by simp[hB0]),trivial⟩
  simp[val,nth,numOf]
  rw[<-Int.natCast_emod,bn]
 have hB0:B≠0:=fun h=>hb (by rw[hnl0.2 h];rfl)
 have hn2:2<=nl B:=by have:=gJ.2 hB0;omega
 rw[List.drop_drop]
 refine agn h0 aa hn2 aa hv fun s lq V s' hs hV hnV hnorm hlq hle=>cO ?_
 exact au.jn hle (amr hk0 aa hB0 hs hV hn2 hnV hnorm hlq)
def Mi (A n B m:Nat):dz:=aJ (oL A B) [n<2^40,m<2^40]
theorem OH:aW P (bY (iN Mi)) xT:=
 cJ (uJ fun _ _ _ _ K hz hy need=>am5 hz hy need.1 need.2 K [])
end Go.Am.B
