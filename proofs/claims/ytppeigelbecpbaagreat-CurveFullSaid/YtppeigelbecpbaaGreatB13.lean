/- natural.Div: its contract. -/
import Derived.Test.YtppeigelbecpbaaGreatB12
set_option linter.unusedVariables false
namespace Go.Am.B
open Go Go.Am.N AV
abbrev jO (A B:Nat):AV:=.tuple [.mag (A/B),.mag (if B=0 then 0 else A%B),.int .i64 (if B=0 then 3 else 0)]
theorem K2 {n N:Nat}:cJ n (ax (ay N)):=eA fun _ _=>cA
theorem xZ {a b:Nat}:bY a b<0↔a<b:=by
 unfold bY
 split
 ·simp_all
 ·split<;>simp_all
theorem bK {k:aE→Prop} {Q:ah→aE→Prop} {s:aE} (h:k s):cK k Q .normal s:=h
theorem UK {c:Ctx} (h0:c.k0=aS) {A B:Nat} (hA:nl A<2^40) (hn2:2≤nl B) (hAB:B≤A) {Q:ah→aE→Prop} {s':aE}
  (hv:aR [0,1,4,5,6] s'=some ([.mag A,.mag B,.nil,.nil,.int .i64 0],[]))
  (fin:∀s lq V s',s<32→V=B*2^s→nl V=nl B→2^31≤ay V (nl V-1)→lq+nl V=nl A+1→(∃ρ,Le c ρ s' ⟨aD ck (dj lq s (nl A+1) V ((lq:Int)-1)),bZ lq (nl A+1) (fun _=>0) (ay (A*2^s)),9⟩)→Q .normal s'):
  aC P c cN.ntmps ((before (au cN) jU).drop (2+1)) s' Q:=by
 have hk0:∀{nx:Nat} k x,c.k0 k=some x→k<nx:=hG h0
 have hABn:nl B≤nl A:=fA hAB
 have hB0:B≠0:=fun h=>by subst h;simp[nl]at hn2
 refine aC.chunk 1 (aC.dB hT gz hm 60 (nx:=0) hv hk0 rfl trivial [0,1,9] K6 (by kernel_rfl) (by kernel_rfl) ?_)
 have w1:IntKind.i64.wrap ((nl B:Int)-1)=((nl B-1:Nat):Int):=cY (by omega) (by omega)
 rw[w1]
 simp only[aa.all,az,Int.toNat_natCast]
 have hlB:=cA (N:=B) (i:=nl B-1)
 refine⟨⟨by omega,by omega⟩,fun s' hv=>bK ?_⟩
 obtain⟨s,hs⟩:∃s,s=32-aY (ay B (nl B-1)):=⟨_,rfl⟩
 rw[←hs]at hv
 obtain⟨hs32,hnV,hnorm,hVlt⟩:=FH hB0 hs
 rw[List.drop_drop]
 refine aC.chunk 1 (aC.dB hT gz hm 60 (nx:=0) hv hk0 rfl trivial [9,10,11] Wy (by kernel_rfl) (by kernel_rfl) ?_)
 simp only[aa.all,az,Int.toNat_natCast,Nat.add_zero]
 refine⟨⟨by omega,by omega,by omega,by omega,by omega,by omega,K2,by omega⟩,fun s' hv=>bK ?_⟩
 have hV1:(val (nl B+1) fun i=>numOf (ax (ay (B*2^s)) i))=B*2^s:=by
  rw[gC,lW]
  exact Nat.lt_of_lt_of_le hVlt (Nat.pow_le_pow_right (by omega) (by omega))
 rw[hV1]at hv
 obtain⟨V,hV⟩:∃V,V=B*2^s:=⟨_,rfl⟩
 rw[←hV]at hv hnV hnorm hVlt
 obtain⟨lq,hlq⟩:∃lq,lq=nl A+1-nl V:=⟨_,rfl⟩
 rw[List.drop_drop]
 refine aC.weak (by kernel_rfl) (cu (vs:=[.int .i64 s,.own 7 1 0 (nl A+1),.mag V]) (ps:=[(7,⟨true,true,1,nl A+1,ax (ay (A*2^s))⟩)]) (nx:=8) [(7,8192)] hv h0 rfl
  ⟨⟨rfl,aF rfl⟩,⟨rfl,ct rfl rfl rfl⟩,⟨rfl,aF rfl⟩,trivial⟩ ⟨⟨_,_,rfl,rfl,dP rfl fun j _=>rfl⟩,trivial⟩) ?_
 refine aC.aV hT gz hm 60 ck Vx (by kernel_rfl) ?_
 have w2:IntKind.i64.wrap (((nl A+1:Nat):Int)-(nl V:Int))=((lq:Nat):Int):=cY (by omega) (by omega)
 have w3:IntKind.i64.wrap ((lq:Int)-1)=(lq:Int)-1:=wrap_i64 (by omega) (by omega)
 rw[w2]
 simp only[aa.all,az,Int.toNat_natCast,w3]
 exact⟨by omega,fun s' hv=>fin s lq V s' hs32 hV hnV (by rw[hnV];exact hnorm) (by omega) (cu (vs:=dj lq s (nl A+1) V ((lq:Int)-1)) (ps:=bZ lq (nl A+1) (fun _=>0) (ay (A*2^s))) (nx:=9) [(7,7),(8,28680)] hv h0 rfl
  ⟨⟨rfl,ct rfl rfl rfl⟩,⟨rfl,aF rfl⟩,⟨rfl,ct rfl rfl rfl⟩,⟨rfl,aF rfl⟩,⟨rfl,aF rfl⟩,⟨rfl,aF rfl⟩,trivial⟩
  ⟨⟨_,_,rfl,rfl,dP rfl fun j _=>rfl⟩,⟨_,_,rfl,rfl,dP rfl fun j _=>rfl⟩,trivial⟩)⟩
theorem Uh {A B V s lq:Nat} (hs:s<32) (hV:V=B*2^s) (hn2:2≤nl B) (hnV:nl V=nl B) (hnorm:2^31≤ay V (nl V-1)) (hlq:lq+nl V=nl A+1):A*2^s<2^(32*(nl A+1))∧A*2^s<V*2^(32*lq):=by
 have hS:0<2^s:=Nat.two_pow_pos _
 have hS31:2^s≤2^31:=Nat.pow_le_pow_right (by omega) (by omega)
 have hAl:A<2^(32*nl A):=jL
 have hA2:A*2^s<2^(32*nl A)*2^31:=
  Nat.lt_of_lt_of_le ((Nat.mul_lt_mul_right hS).2 hAl) (Nat.mul_le_mul_left _ hS31)
 have hA3:A*2^s<2^(32*(nl A+1)):=by
  rw[fm];omega
 refine⟨hA3,?_⟩
 have hsp:V=val (nl V-1) (ay V)+ay V (nl V-1)*2^(32*(nl V-1)):=by
  have:=ep (N:=V)
  obtain⟨k,hk⟩:∃k,nl V=k+1:=⟨nl V-1,by omega⟩
  rw[hk,val]at this
  rw[hk,Nat.add_sub_cancel]
  exact this.symm
 have h2:2^31*2^(32*(nl V-1))≤V:=by
  have:=Nat.mul_le_mul_right (2^(32*(nl V-1))) hnorm
  omega
 have h3:=Nat.mul_le_mul_right (2^(32*lq)) h2
 have e:2^31*2^(32*(nl V-1))*2^(32*lq)=2^(32*nl A)*2^31:=by
  rw[Nat.mul_assoc,←Nat.pow_add,Nat.mul_comm]
  congr 2
  omega
 omega
theorem Rw {c:Ctx} (h0:∀k x,c.k0 k=some x→k<9) {A B V s lq:Nat} (hA:nl A<2^40) (hB0:B≠0) (hs:s<32) (hV:V=B*2^s) (hn2:2≤nl B) (hnV:nl V=nl B) (hnorm:2^31≤ay V (nl V-1)) (hlq:lq+nl V=nl A+1):
  aj P c cN.ntmps (part (au cN) jU) ⟨aD ck (dj lq s (nl A+1) V ((lq:Int)-1)),bZ lq (nl A+1) (fun _=>0) (ay (A*2^s)),9⟩
   (cK (fun s'=>aC P c cN.ntmps (behind (au cN) jU) s' (Fin T cN (jO A B))) (Fin T cN (jO A B))):=by
 obtain⟨z1,z2⟩:=Uh (A:=A) hs hV hn2 hnV hnorm hlq
 have hS:0<2^s:=Nat.two_pow_pos _
 refine WS (N:=A*2^s) h0 (by omega) (by omega) (by omega) hnorm (fun i _=>cA) (lW z1) z2 rfl fun q u s' hu hq hsum hlt hv=>bK ?_
 have hR:val (nl A+1) u=A%B*2^s:=by
  have h1:(A*2^s)%V=val (nl A+1) u:=by
   rw[←hsum,Nat.mul_comm,Nat.mul_add_mod];exact Nat.mod_eq_of_lt hlt
  rw[←h1,hV,Nat.mul_mod_mul_right]
 have hQ:val lq q=A/B:=by
  have h1:(A*2^s)/V=val lq q:=by
   rw[←hsum,Nat.mul_comm,Nat.mul_add_div (by omega),Nat.div_eq_of_lt hlt];omega
  rw[←h1,hV,Nat.mul_div_mul_right _ _ hS]
 have hRl:∀i,i<nl (val (nl A+1) u)→u i=ay (val (nl A+1) u) i:=fun i hi=>(l8 hu (Nat.lt_of_lt_of_le hi (cq.2 (ec hu)))).symm
 refine aC.gY (nx:=9) hv h0 (by kernel_rfl) rfl gd ?_
 show aC P c cN.ntmps [iR] _ _
 refine aj.hole [1,0,1] (by kernel_rfl) (aC.aV hT vk hm 60 jn PA (by kernel_rfl) ?_)
 simp only[aa.all,az,gC]
 refine⟨⟨eA hu,trivial,by omega⟩,fun s' hv=>bK ?_⟩
 refine W4 (lu:=nl A+1) (u:=u) h0 hs (by omega) rfl (cq.2 (ec hu)) hu hRl hv fun w s' hw hval hv=>bK ?_
 refine aC.mono (Q:=Fin T cN (jO A B)) (fun e s' h=>by cases e<;>exact h) ?_
 refine aC.wV hT eR hm 60 (nx:=9) hv h0 rfl gd Lt (by kernel_rfl) (by kernel_rfl) ?_
 simp only[aa.all,az,Nat.add_zero,gC]
 have hll:nl (val (nl A+1) u)≤nl A+1:=cq.2 (ec hu)
 refine⟨⟨eA hq,by omega,eA fun i hi=>hw i (by omega),by omega⟩,cD (by rw[hQ]),cD ?_,bh (by simp[hB0]),trivial⟩
 rw[if_neg hB0,hval,hR,Nat.mul_div_cancel _ hS]
theorem MJ {n m:Nat} {z y:Nat→Nat} (hz:∀i,i<n→z i<2^32) (hy:∀i,i<m→y i<2^32) (hn:n<2^40) (hm':m<2^40) (K:Nat) (pre:aA):
  aB P pQ K [.aq 1 n (ax z),.aq 1 m (ax y)] pre (aG (jO (val n z) (val m y)) []):=by
 refine gH hT Np rfl (of_decide_eq_true (by kernel_rfl)) rfl (fun _ c h0=>?_) K pre
 have hk0:∀{nx:Nat} k x,c.k0 k=some x→k<nx:=hG h0
 have hA:nl (val n z)≤n:=cq.2 (ec hz)
 have hB:nl (val m y)≤m:=cq.2 (ec hy)
 refine aj.hole jU (by kernel_rfl) (aC.chunk 2 (aC.aV hT gz hm 60 [0,1,4,5,6] IV (by kernel_rfl) ?_))
 simp only[aa.all,az,gC]
 generalize val n z=A at*
 generalize val m y=B at*
 refine⟨⟨eA hz,by omega,eA hy,by omega⟩,fun s' hv=>bK ?_⟩
 refine aC.chunk 1 (aC.dB hT gz hm 60 (nx:=0) hv hk0 rfl trivial [0,1,4,5,6] UU (by kernel_rfl) (by kernel_rfl) ?_)
 simp only[aa.all,az,beq_iff_eq,beq_eq_false_iff_ne,ne_eq,decide_eq_true_eq,decide_eq_false_iff_not,xZ]
 have hnl0:nl B=0↔B=0:=⟨fun h=>by
  rcases Nat.eq_zero_or_pos B with h1|h1
  ·exact h1
  ·have:=eL.2 (show B≠0 by omega);omega,fun h=>by subst h;rfl⟩
 refine⟨fun hb s' hv=>?_,fun hb=>⟨⟨by omega,by omega⟩,fun hlt=>⟨by omega,fun s' hv=>?_⟩,fun hge=>⟨fun h1=>?_,fun h1 s' hv=>bK ?_⟩⟩⟩
 ·have hB0:B=0:=hnl0.1 (by omega)
  subst hB0
  refine dL (dL ?_)
  exact eH (us:=[.nil,.nil,.int .i64 3]) (.inr rfl) hv (by kernel_rfl) ⟨by simpa using ir,ir,bh (by simp),trivial⟩
 ·have hB0:B≠0:=fun h=>hb (by rw[hnl0.2 h];rfl)
  refine dL (dL ?_)
  refine eH (us:=[.nil,.mag A,.int .i64 0]) (.inr rfl) hv (by kernel_rfl) ⟨?_,cD ?_,bh (by simp[hB0]),trivial⟩
  ·rw[Nat.div_eq_of_lt hlt];exact ir
  ·rw[if_neg hB0,Nat.mod_eq_of_lt hlt]
 ·have h1':nl B=1:=by omega
  have hB0:B≠0:=fun h=>hb (by rw[hnl0.2 h];rfl)
  have hl0:ay B 0=B:=by
   have:=ep (N:=B)
   rw[h1',val,val]at this
   simpa using this
  have hBlt:B<2^32:=by rw[←hl0];exact cA
  have hmod:A%B<2^32:=Nat.lt_trans (Nat.mod_lt _ (by omega)) hBlt
  simp only[Int.toNat_zero,hl0,Int.toNat_natCast]
  have hf:(fun i=>nth [AV.int .u32 ((A%B:Nat):Int)] (.int .u32 0) (i+0))=fun i=>ax (fun i=>if i=0 then A%B else 0) i:=by
   funext i
   cases i with
   |zero=>simp[nth,ax]
   |succ i=>simp[nth,ax]
  rw[hf]
  refine⟨⟨by omega,by omega,by omega,by omega⟩,⟨by omega,eA (fun i hi=>by split<;>omega),by omega⟩,fun s' hv=>dL (dL ?_)⟩
  refine eH (vs:=[.mag A,.mag B,.mag (A/B),.mag (A%B),.int .i64 0]) (os:=[]) (us:=[.mag (A/B),.mag (A%B),.int .i64 0]) (.inr rfl) (cC hv ?_ rfl) (by kernel_rfl) ⟨.refl _,cD (by rw[if_neg hB0]),bh (by simp[hB0]),trivial⟩
  simp[val,nth,numOf]
  rw[←Int.natCast_emod,Int.toNat_natCast]
 have hB0:B≠0:=fun h=>hb (by rw[hnl0.2 h];rfl)
 have hn2:2≤nl B:=by have:=eL.2 hB0;omega
 rw[List.drop_drop]
 refine UK h0 (by omega) hn2 (by omega) hv fun s lq V s' hs hV hnV hnorm hlq hle=>bK ?_
 exact aj.jd hle (Rw hk0 (by omega) hB0 hs hV hn2 hnV hnorm hlq)
def BQ (A n B m:Nat):cr:=aG (jO A B) [n<2^40,m<2^40]
theorem DU:∀K args pre r,bq (fI BQ) K args pre=some r→aB P pQ K args pre r:=
 bL (qg fun _ _ _ _ K hz hy need=>MJ hz hy need.1 need.2 K [])
end Go.Am.B
