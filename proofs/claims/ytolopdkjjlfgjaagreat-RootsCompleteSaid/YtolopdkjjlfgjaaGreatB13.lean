/- natural.Div: its contract. -/
import Derived.Test.YtolopdkjjlfgjaaGreatB12
set_option linter.unusedVariables false
namespace Go.Am.B
open Go Go.Am.N AV Proofs.Tryz IntKind
abbrev nq (A B:Nat):AV:=.tuple [.mag (A/B),.mag (if B=0 then 0 else A%B),.int .i64 (if B=0 then 3 else 0)]
theorem aev {n N:Nat}:eP n (az (aB N)):=g9 fun _ _=>eA
theorem BH {a b:Nat}:dr a b<0↔a<b:=by
 unfold dr
 split
 ·simp_all
 ·split<;>simp_all
theorem cM {k:aI->Prop} {Q:ak->aI->Prop} {s:aI} (h:k s):fk k Q .normal s:=h
theorem Zf {c:Ctx} (h0:c.k0=br) {A B:Nat} (hA:nl A<2^40) (hn2:2<=nl B) (hAB:B<=A) {Q:ak->aI->Prop} {s':aI}
  (hv:bh [0,1,4,5,6] s'=some ([.mag A,.mag B,.nil,.nil,.int .i64 0],[]))
  (fin:∀s lq V s',s<32->V=B*2^s->nl V=nl B->2^31<=aB V (nl V-1)->lq+nl V=nl A+1->(∃ρ,Le c ρ s' ⟨aE dN (fL lq s (nl A+1) V ((lq:Int)-1)),dn lq (nl A+1) (fun _=>0) (aB (A*2^s)),9⟩)->Q .normal s'):
  aF P c f168.ntmps ((before (aG f168) nv).drop (2+1)) s' Q:=by
 have hk0:∀{nx:Nat} k x,c.k0 k=some x->k<nx:=kg h0
 have hABn:nl B<=nl A:=iS hAB
 have hB0:B≠0:=fun h=>by subst h;simp[nl]at hn2
 refine aF.chunk 1 (aF.fT hT jT hm 60 (nx:=0) hv hk0 rfl trivial [0,1,9] Q8 ag ag ?_)
 have w1:i64.wrap ((nl B:Int)-1)=((nl B-1:Nat):Int):=fD aa aa
 rw[w1]
 simp only[af.all,aA,bE]
 have hlB:=eA (N:=B) (i:=nl B-1)
 refine⟨⟨aa,aa⟩,fun s' hv=>cM ?_⟩
 obtain⟨s,hs⟩:∃s,s=32-bP (aB B (nl B-1)):=⟨_,rfl⟩
 rw[<-hs]at hv
 obtain⟨hs32,hnV,hnorm,hVlt⟩:=Js hB0 hs
 rw[List.drop_drop]
 refine aF.chunk 1 (aF.fT hT jT hm 60 (nx:=0) hv hk0 rfl trivial [9,10,11] adV ag ag ?_)
 simp only[af.all,aA,bE,Nat.add_zero]
 refine⟨⟨aa,aa,aa,aa,aa,aa,aev,aa⟩,fun s' hv=>cM ?_⟩
 have hV1:(val (nl B+1) fun i=>numOf (az (aB (B*2^s)) i))=B*2^s:=by
  rw[kj,qq]
  exact Nat.lt_of_lt_of_le hVlt (Nat.pow_le_pow_right aa aa)
 rw[hV1]at hv
 obtain⟨V,hV⟩:∃V,V=B*2^s:=⟨_,rfl⟩
 rw[<-hV]at hv hnV hnorm hVlt
 obtain⟨lq,hlq⟩:∃lq,lq=nl A+1-nl V:=⟨_,rfl⟩
 rw[List.drop_drop]
 refine aF.weak ag (dZ (vs:=[.int .i64 s,.own 7 1 0 (nl A+1),.mag V]) (ps:=[(7,⟨true,true,1,nl A+1,az (aB (A*2^s))⟩)]) (nx:=8) [(7,8192)] hv h0 rfl
  ⟨aO,⟨rfl,en rfl rfl rfl⟩,aO,trivial⟩ ⟨⟨_,_,rfl,rfl,gq rfl fun j _=>rfl⟩,trivial⟩) ?_
 refine aF.bJ hT jT hm 60 dN Wk ag ?_
 have w2:i64.wrap (((nl A+1:Nat):Int)-(nl V:Int))=((lq:Nat):Int):=fD aa aa
 have w3:i64.wrap ((lq:Int)-1)=(lq:Int)-1:=wrap_i64 aa aa
 rw[w2]
 simp only[af.all,aA,bE,w3]
 exact⟨aa,fun s' hv=>fin s lq V s' hs32 hV hnV (by rw[hnV];exact hnorm) aa (dZ (vs:=fL lq s (nl A+1) V ((lq:Int)-1)) (ps:=dn lq (nl A+1) (fun _=>0) (aB (A*2^s))) (nx:=9) [(7,7),(8,28680)] hv h0 rfl
  ⟨⟨rfl,en rfl rfl rfl⟩,aO,⟨rfl,en rfl rfl rfl⟩,aO,aO,aO,trivial⟩
  ⟨⟨_,_,rfl,rfl,gq rfl fun j _=>rfl⟩,⟨_,_,rfl,rfl,gq rfl fun j _=>rfl⟩,trivial⟩)⟩
theorem Tb {A B V s lq:Nat} (hs:s<32) (hV:V=B*2^s) (hn2:2<=nl B) (hnV:nl V=nl B) (hnorm:2^31<=aB V (nl V-1)) (hlq:lq+nl V=nl A+1):A*2^s<2^(32*(nl A+1))/\A*2^s<V*2^(32*lq):=by
 have hS:0<2^s:=Nat.two_pow_pos _
 have hS31:2^s<=2^31:=Nat.pow_le_pow_right aa aa
 have hAl:A<2^(32*nl A):=nc
 have hA2:A*2^s<2^(32*nl A)*2^31:=
  Nat.lt_of_lt_of_le ((Nat.mul_lt_mul_right hS).2 hAl) (Nat.mul_le_mul_left _ hS31)
 have hA3:A*2^s<2^(32*(nl A+1)):=by
  rw[iX];omega
 refine⟨hA3,?_⟩
 have hsp:V=val (nl V-1) (aB V)+aB V (nl V-1)*2^(32*(nl V-1)):=by
  have:=gO (N:=V)
  obtain⟨k,hk⟩:∃k,nl V=k+1:=⟨nl V-1,aa⟩
  rw[hk,val]at this
  rw[hk,Nat.add_sub_cancel]
  exact this.symm
 have h2:2^31*2^(32*(nl V-1))<=V:=by
  have:=Nat.mul_le_mul_right (2^(32*(nl V-1))) hnorm
  omega
 have h3:=Nat.mul_le_mul_right (2^(32*lq)) h2
 have e:2^31*2^(32*(nl V-1))*2^(32*lq)=2^(32*nl A)*2^31:=by
  rw[Nat.mul_assoc,<-Nat.pow_add,Nat.mul_comm]
  congr 2
  omega
 omega
theorem Rv {c:Ctx} (h0:∀k x,c.k0 k=some x->k<9) {A B V s lq:Nat} (hA:nl A<2^40) (hB0:B≠0) (hs:s<32) (hV:V=B*2^s) (hn2:2<=nl B) (hnV:nl V=nl B) (hnorm:2^31<=aB V (nl V-1)) (hlq:lq+nl V=nl A+1):
  au P c f168.ntmps (part (aG f168) nv) ⟨aE dN (fL lq s (nl A+1) V ((lq:Int)-1)),dn lq (nl A+1) (fun _=>0) (aB (A*2^s)),9⟩
   (fk (fun s'=>aF P c f168.ntmps (behind (aG f168) nv) s' (Fin T f168 (nq A B))) (Fin T f168 (nq A B))):=by
 obtain⟨z1,z2⟩:=Tb (A:=A) hs hV hn2 hnV hnorm hlq
 have hS:0<2^s:=Nat.two_pow_pos _
 refine SS (N:=A*2^s) h0 aa aa aa hnorm (fun i _=>eA) (qq z1) z2 rfl fun q u s' hu hq hsum hlt hv=>cM ?_
 have hR:val (nl A+1) u=A%B*2^s:=by
  have h1:(A*2^s)%V=val (nl A+1) u:=by
   rw[<-hsum,Nat.mul_comm,Nat.mul_add_mod];exact Nat.mod_eq_of_lt hlt
  rw[<-h1,hV,Nat.mul_mod_mul_right]
 have hQ:val lq q=A/B:=by
  have h1:(A*2^s)/V=val lq q:=by
   rw[<-hsum,Nat.mul_comm,Nat.mul_add_div aa,Nat.div_eq_of_lt hlt];omega
  rw[<-h1,hV,Nat.mul_div_mul_right _ _ hS]
 have hRl:∀i,i<nl (val (nl A+1) u)->u i=aB (val (nl A+1) u) i:=fun i hi=>(qa hu (Nat.lt_of_lt_of_le hi (ec.2 (gH hu)))).symm
 refine aF.kA (nx:=9) hv h0 ag rfl jI ?_
 show aF P c f168.ntmps [lV] _ _
 refine au.hole [1,0,1] ag (aF.bJ hT yC hm 60 mR TN ag ?_)
 simp only[af.all,aA,kj]
 refine⟨⟨g9 hu,trivial,aa⟩,fun s' hv=>cM ?_⟩
 refine Xu (lu:=nl A+1) (u:=u) h0 hs aa rfl (ec.2 (gH hu)) hu hRl hv fun w s' hw hval hv=>cM ?_
 refine aF.mono (Q:=Fin T f168 (nq A B)) (fun e s' h=>by cases e<;>exact h) ?_
 refine aF.yN hT iA hm 60 (nx:=9) hv h0 rfl jI XK ag ag ?_
 simp only[af.all,aA,Nat.add_zero,kj]
 have hll:nl (val (nl A+1) u)<=nl A+1:=ec.2 (gH hu)
 refine⟨⟨g9 hq,aa,g9 fun i hi=>hw i aa,aa⟩,eO (by rw[hQ]),eO ?_,bV (by simp[hB0]),trivial⟩
 rw[if_neg hB0,hval,hR,Nat.mul_div_cancel _ hS]
theorem Qd {n m:Nat} {z y:Nat->Nat} (hz:∀i,i<n->z i<2^32) (hy:∀i,i<m->y i<2^32) (hn:n<2^40) (hm':m<2^40) (K:Nat) (pre:aD):
  aQ P 168 K [.aq 1 n (az z),.aq 1 m (az y)] pre (aM (nq (val n z) (val m y)) []):=by
 refine kr hT ZD rfl bp rfl (fun _ c h0=>?_) K pre
 have hk0:∀{nx:Nat} k x,c.k0 k=some x->k<nx:=kg h0
 have hA:nl (val n z)<=n:=ec.2 (gH hz)
 have hB:nl (val m y)<=m:=ec.2 (gH hy)
 refine au.hole nv ag (aF.chunk 2 (aF.bJ hT jT hm 60 [0,1,4,5,6] abk ag ?_))
 simp only[af.all,aA,kj]
 generalize val n z=A at*
 generalize val m y=B at*
 refine⟨⟨g9 hz,aa,g9 hy,aa⟩,fun s' hv=>cM ?_⟩
 refine aF.chunk 1 (aF.fT hT jT hm 60 (nx:=0) hv hk0 rfl trivial [0,1,4,5,6] QV ag ag ?_)
 simp only[af.all,aA,beq_iff_eq,beq_eq_false_iff_ne,ne_eq,bK,bO,BH]
 have hnl0:nl B=0↔B=0:=⟨fun h=>by
  rcases Nat.eq_zero_or_pos B with h1|h1
  ·exact h1
  ·have:=gZ.2 (show B≠0 by omega);omega,fun h=>by subst h;rfl⟩
 refine⟨fun hb s' hv=>?_,fun hb=>⟨⟨aa,aa⟩,fun hlt=>⟨aa,fun s' hv=>?_⟩,fun hge=>⟨fun h1=>?_,fun h1 s' hv=>cM ?_⟩⟩⟩
 ·have hB0:B=0:=hnl0.1 aa
  subst hB0
  refine fZ (fZ ?_)
  exact iq (us:=[.nil,.nil,.int .i64 3]) (.inr rfl) hv ag ⟨by simpa using lF,lF,bV (by simp),trivial⟩
 ·have hB0:B≠0:=fun h=>hb (by rw[hnl0.2 h];rfl)
  refine fZ (fZ ?_)
  refine iq (us:=[.nil,.mag A,.int .i64 0]) (.inr rfl) hv ag ⟨?_,eO ?_,bV (by simp[hB0]),trivial⟩
  ·rw[Nat.div_eq_of_lt hlt];exact lF
  ·rw[if_neg hB0,Nat.mod_eq_of_lt hlt]
 ·have h1':nl B=1:=aa
  have hB0:B≠0:=fun h=>hb (by rw[hnl0.2 h];rfl)
  have hl0:aB B 0=B:=by
   have:=gO (N:=B)
   rw[h1',val,val]at this
   simpa using this
  have hBlt:B<2^32:=by rw[<-hl0];exact eA
  have hmod:A%B<2^32:=Nat.lt_trans (Nat.mod_lt _ aa) hBlt
  simp only[Int.toNat_zero,hl0,bE]
  have hf:(fun i=>nth [AV.int .u32 ((A%B:Nat):Int)] (.int .u32 0) (i+0))=fun i=>az (fun i=>if i=0 then A%B else 0) i:=by
   funext i
   cases i with
   |zero=>simp[nth,az]
   |succ i=>simp[nth,az]
  rw[hf]
  refine⟨⟨aa,aa,aa,aa⟩,⟨aa,g9 (fun i hi=>by split<;>omega),aa⟩,fun s' hv=>fZ (fZ ?_)⟩
  refine iq (vs:=[.mag A,.mag B,.mag (A/B),.mag (A%B),.int .i64 0]) (os:=[]) (us:=[.mag (A/B),.mag (A%B),.int .i64 0]) (.inr rfl) (eH hv ?_ rfl) ag ⟨.refl _,eO (by rw[if_neg hB0]),bV (by simp[hB0]),trivial⟩
  simp[val,nth,numOf]
  rw[<-Int.natCast_emod,bE]
 have hB0:B≠0:=fun h=>hb (by rw[hnl0.2 h];rfl)
 have hn2:2<=nl B:=by have:=gZ.2 hB0;omega
 rw[List.drop_drop]
 refine Zf h0 aa hn2 aa hv fun s lq V s' hs hV hnV hnorm hlq hle=>cM ?_
 exact au.mU hle (Rv hk0 aa hB0 hs hV hn2 hnV hnorm hlq)
def CZ (A n B m:Nat):dP:=aM (nq A B) [n<2^40,m<2^40]
theorem Nw:bA P (b7 (jq CZ)) 168:=
 cP (vk fun _ _ _ _ K hz hy need=>Qd hz hy need.1 need.2 K [])
end Go.Am.B
