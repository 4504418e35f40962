/- ref01: Div's contract; Gcd. -/
import Derived.Test.YtppeigelbecpbaaGreatB27
set_option linter.unusedVariables false
namespace Go.Am.B
open Go Go.Am.N AV
theorem Y9 {c:Ctx} (h0:∀nx k x,c.k0 k=some x→k<nx) {A B V s lq R0:Nat} (hs:s<32) (hB0:B≠0) (hV:V=B*2^s) (hR0:R0=A*2^s) (hn:2≤nl V) (hnV:nl V<2^39) (hlq:lq<2^39) (hv1:0<az V (nl V-1)) (hnR:nl R0<2^40) (hlt:R0<V*2^(32*lq))
  {s':aF} (hv:aX eC s'=some (ia V s R0 lq ((lq:Int)-1) 7,cR 7 lq fun _=>0)):
  aq P c fL.ntmps (part (au fL) oX) s' (dz (fun s'=>aD P c fL.ntmps (behind (au fL) oX) s' (dO c (Fin T fL (mc A B)))) (dO c (Fin T fL (mc A B)))):=by
 have hV0:0<V:=Nat.pos_of_ne_zero (fY.1 (by omega))
 refine aq.gC (i:=0) (y:=oC) (by kernel_rfl) eC 8 (h0 _) (fun p:Nat×Nat×(Nat→Nat)=>ia V s p.2.1 lq ((p.1:Int)-1) 7) (fun p=>cR 7 lq p.2.2) (fun _=>rfl) (fun _=>gx (by omega))
  (fun p=>p.1≤lq∧(∀i,i<lq→p.2.2 i<2^32)∧(∀i,i<p.1→p.2.2 i=0)∧val lq p.2.2*V+p.2.1=R0∧p.2.1<V*2^(32*p.1)) (fun p=>p.1) (lq,R0,fun _=>0) hv
  ⟨by simp,fun _ _=>by simp,fun _ _=>rfl,?_,hlt⟩ ?_
 ·simp only;rw[val_zero fun _ _=>rfl];simp
 rintro⟨m,R,q⟩ ⟨hm',hq,hq0,hval,hR⟩
 simp only at hm' hq hq0 hval hR
 refine aq.hole [0] (by kernel_rfl) (show aq P c fL.ntmps (part oC [0]) _ _ from aq.bf hT lU hm 60 eC aaI (by kernel_rfl) ?_)
 simp only[aa.all,decide_eq_true_eq,decide_eq_false_iff_not]
 refine⟨fun hb s' hv=>bY ?_,fun hb s' hv=>rq (eV ?_)⟩
 ·obtain⟨j,rfl⟩:∃j,m=j+1:=⟨m-1,by omega⟩
  have hv:aX eC s'=some (ia V s R lq (j:Nat) 7,cR 7 lq q):=dm hv (by simp only[ia,List.cons.injEq,AV.int.injEq,and_true,true_and];omega) rfl
  show aD P c fL.ntmps [part oC [1]] s' _
  refine aq.hole [0] (by kernel_rfl) ?_
  show aq P c fL.ntmps (part oC [1,0]) s' _
  refine aq.ov (i:=1) (y:=mB) (by kernel_rfl) ?_
  refine afw h0 hn hnV (by omega) (by omega) (by omega) hR hv1 hv fun s' hqt hv=>?_
  show aD P c fL.ntmps [part oC [1,1]] s' _
  refine aD.eH hT lU hm 60 hv (h0 8) rfl (gx (by omega)) eC SE (by kernel_rfl) (by kernel_rfl) fun s' hv=>bY ?_
  refine⟨(j,R%(V*2^(32*j)),bU q j (R/(V*2^(32*j)))),dm hv ?_ rfl,⟨by simp only;omega,gT hqt hq,fun i hi=>(fm (by simp only at hi;omega)).trans (hq0 i (by simp only at hi;omega)),?_,Nat.mod_lt _ (Nat.mul_pos hV0 (Nat.two_pow_pos _))⟩,by simp only;omega⟩
  ·rw[wrap_i64 (by omega) (by omega)]
  ·simp only
   rw[qB (by omega) (hq0 j (by omega)),Nat.add_mul]
   have h1:=Nat.div_add_mod R (V*2^(32*j))
   generalize R/(V*2^(32*j))=qt at*
   generalize R%(V*2^(32*j))=r at*
   rw[show qt*2^(32*j)*V=V*2^(32*j)*qt by rw[Nat.mul_comm (V*_),Nat.mul_assoc,Nat.mul_comm (2^_)]]
   omega
 ·have hm0:m=0:=by omega
  have hRV:R<V:=by rw[hm0]at hR;simpa using hR
  show aD P c fL.ntmps (behind (au fL) oX) s' _
  refine aD.jz hT lU hm 60 hv (h0 _) rfl (gx (by omega)) af4 (by kernel_rfl) (by kernel_rfl) ?_
  have hS:0<2^s:=Nat.two_pow_pos _
  have hnR2:nl R≤nl R0:=gB (by omega)
  obtain⟨e1,e2⟩:=LW hval hRV
  simp only[aa.all,ax,Int.toNat_natCast,Nat.add_zero,jn]
  refine⟨⟨fR hq,by omega,by omega,by omega,by omega⟩,dc (congrArg AV.mag ?_),dc (congrArg AV.mag ?_),bw (by rw[if_neg hB0]),trivial⟩
  ·rw[←e1,hR0,hV,Nat.mul_div_mul_right _ _ hS]
  ·rw[if_neg hB0,←e2,hR0,hV,Nat.mul_mod_mul_right,Nat.mul_div_cancel _ hS]
theorem T2 {A B:Nat} (hA:nl A<2^38) (hB:nl B<2^38) (K:Nat):aB P sU K [.mag A,.mag B] [] (aK (mc A B) []):=by
 refine iq hT akY rfl (of_decide_eq_true (by kernel_rfl)) rfl (fun _ c h0=>?_) K []
 have hk0:=CM h0
 refine aq.hole oX (by kernel_rfl) (aD.chunk 5 (aD.bf hT lU hm 60 [0,1,4,5,6] ahd (by kernel_rfl) ?_))
 simp only[aa.all,ax,beq_iff_eq,beq_eq_false_iff_ne,ne_eq,decide_eq_true_eq,decide_eq_false_iff_not,Bl]
 have hnl0:nl B=0↔B=0:=iJ
 refine⟨fun hb s' hv=>eW (eW (.inl ?_)),fun hb=>⟨⟨by omega,by omega⟩,fun hlt=>⟨by omega,fun s' hv=>eW (eW (.inl ?_))⟩,fun hge=>⟨fun hf=>?_,fun hf=>⟨fun h1=>?_,fun h1 s' hv=>bY ?_⟩⟩⟩⟩
 ·have hB0:B=0:=hnl0.1 (by omega)
  exact fZ (us:=[.nil,.nil,.int .i64 3]) (.inr rfl) hv (by kernel_rfl) ⟨by rw[hB0];simpa using jV,by rw[if_pos hB0];exact jV,bw (by simp[hB0]),trivial⟩
 ·have hB0:B≠0:=fun h=>hb (by rw[hnl0.2 h];rfl)
  refine fZ (us:=[.nil,.mag A,.int .i64 0]) (.inr rfl) hv (by kernel_rfl) ⟨?_,dc ?_,bw (by simp[hB0]),trivial⟩
  ·rw[Nat.div_eq_of_lt hlt];exact jV
  ·rw[if_neg hB0,Nat.mod_eq_of_lt hlt]
 ·have hB0:B≠0:=fun h=>hb (by rw[hnl0.2 h];rfl)
  have hA64:A<2^64:=by unfold fH at hf;simpa using hf
  have vS:fH B=true:=by unfold fH;simp;omega
  rw[if_pos hf,if_pos vS]
  have hdl:=Nat.div_le_self A B
  have hml:A%B≤A:=Nat.mod_le _ _
  have e1:IntKind.u64.wrap ((A:Int).tdiv (B:Int))=((A/B:Nat):Int):=by rw[←Int.ofNat_tdiv,xA,Nat.mod_eq_of_lt (by omega)]
  have e2:(A:Int).tmod (B:Int)=((A%B:Nat):Int):=(Int.ofNat_tmod _ _).symm
  rw[e1,e2]
  have cn:∀{x:Nat},x<2^64→(0:Int)≤(x:Int)∧(x:Int)<2^64:=fun {x} h=>by omega
  refine⟨⟨by omega,cn (Nat.lt_of_le_of_lt hdl hA64),by omega,cn (Nat.lt_of_le_of_lt hml hA64)⟩,fun s' hv=>eW (eW (.inl ?_))⟩
  refine fZ (us:=[.mag (A/B),.mag (A%B),.int .i64 0]) (.inr rfl) hv (by kernel_rfl) ⟨.refl _,dc (by rw[if_neg hB0]),bw (by simp[hB0]),trivial⟩
 ·have hB0:B≠0:=fun h=>hb (by rw[hnl0.2 h];rfl)
  have hl0:az B 0=B:=by
   have:=fJ (N:=B)
   rw[show nl B=1 by omega,val,val]at this
   simpa using this
  have hBlt:B<2^32:=by rw[←hl0];exact de
  have hmod:A%B<2^32:=Nat.lt_trans (Nat.mod_lt _ (by omega)) hBlt
  simp only[Int.toNat_zero,hl0,Int.toNat_natCast]
  have e1:IntKind.u64.wrap ((A%B:Nat):Int)=((A%B:Nat):Int):=by rw[xA,Nat.mod_eq_of_lt (by omega)]
  rw[e1]
  have cn:∀{x:Nat},x<2^32→(0:Int)≤(x:Int)∧(x:Int)<2^64:=fun {x} h=>by omega
  refine⟨⟨by omega,by omega,by omega,by omega⟩,cn hmod,fun s' hv=>eW (eW (.inl ?_))⟩
  refine fZ (us:=[.mag (A/B),.mag (A%B),.int .i64 0]) (.inr rfl) hv (by kernel_rfl) ⟨.refl _,dc (by rw[if_neg hB0]),bw (by simp[hB0]),trivial⟩
 have hB0:B≠0:=fun h=>hb (by rw[hnl0.2 h];rfl)
 have hn2:2≤nl B:=by have:=fY.2 hB0;omega
 have hv:=hH (ls:=[0,1]) (l:=[4,5,6]) (vs:=[.mag A,.mag B]) hv rfl rfl
 refine aD.chunk 1 (aD.eH hT lU hm 60 hv (h0 0) rfl trivial [0,1,13] TT (by kernel_rfl) (by kernel_rfl) ?_)
 have w1:IntKind.i64.wrap ((nl B:Int)-1)=((nl B-1:Nat):Int):=ef (by omega) (by omega)
 rw[w1]
 simp only[aa.all,ax,Int.toNat_natCast]
 have e1:nl B-(nl B-1)=1:=by omega
 rw[e1]
 have hlB:=de (N:=B) (i:=nl B-1)
 have htopB:=Cm hB0
 have e2:(val 1 fun i=>numOf (AV.int .u32 (az B (i+(nl B-1)):Nat)))=az B (nl B-1):=by
  rw[val,val];simp[numOf]
 rw[e2]
 have hb32:br (az B (nl B-1))≤32:=iI.2 hlB
 have w2:IntKind.i64.wrap (32-((br (az B (nl B-1)):Nat):Int))=((32-br (az B (nl B-1)):Nat):Int):=ef (by omega) (by omega)
 rw[w2]
 have hnl1:nl (az B (nl B-1))=1:=by
  have:=fY.2 htopB
  have:nl (az B (nl B-1))≤1:=cT.2 (by omega)
  omega
 refine⟨⟨by omega,fun i hi=>⟨_,de,rfl⟩,by omega,hnl1⟩,fun s' hv=>bY ?_⟩
 obtain⟨s,hs⟩:∃s,s=32-br (az B (nl B-1)):=⟨_,rfl⟩
 rw[←hs]at hv
 obtain⟨hs32,hnV,hnorm,hVlt⟩:=Ny hB0 hs
 rw[List.drop_drop]
 refine aD.eH hT lU hm 60 hv (h0 0) rfl trivial eC Sw (by kernel_rfl) (by kernel_rfl) ?_
 simp only[aa.all,ax,Int.toNat_natCast]
 obtain⟨V,hV⟩:∃V,V=B*2^s:=⟨_,rfl⟩
 obtain⟨R0,hR0⟩:∃R0,R0=A*2^s:=⟨_,rfl⟩
 rw[←hV,←hR0]
 rw[←hV]at hnV hnorm hVlt
 have hnR1:nl R0≤nl A+1:=cT.2 (by
  rw[hR0,show 32*(nl A+1)=32*nl A+32 by omega,Nat.pow_add]
  have h1:2^s≤2^32:=Nat.pow_le_pow_right (by omega) (by omega)
  exact Nat.lt_of_lt_of_le ((Nat.mul_lt_mul_right (Nat.two_pow_pos s)).2 mQ) (Nat.mul_le_mul_left _ h1))
 have hnR2:nl V≤nl R0:=gB (by rw[hV,hR0];exact Nat.mul_le_mul_right _ (by omega))
 obtain⟨lq,hlq⟩:∃lq,lq=nl R0-nl V+1:=⟨_,rfl⟩
 have w3:IntKind.i64.wrap ((nl R0:Int)-(nl V:Int))=((lq:Nat):Int)-1:=by rw[wrap_i64 (by omega) (by omega)];omega
 have w4:IntKind.i64.wrap (((lq:Nat):Int)-1+1)=((lq:Nat):Int):=ef (by omega) (by omega)
 rw[w3,w4]
 simp only[Int.toNat_natCast]
 refine⟨⟨by omega,by omega,by omega,by omega,by omega,by omega⟩,by omega,fun s' hv=>bY ?_⟩
 refine aq.kg (cX (vs:=ia V s R0 lq ((lq:Int)-1) 7) (ps:=cR 7 lq fun _=>0) (nx:=8) [(7,65536)] hv hk0 rfl
  ⟨⟨rfl,aI rfl⟩,⟨rfl,aI rfl⟩,⟨rfl,aI rfl⟩,⟨rfl,aI rfl⟩,⟨rfl,cw rfl rfl rfl⟩,⟨rfl,aI rfl⟩,trivial⟩ ⟨⟨_,_,rfl,rfl,e9 rfl fun j _=>rfl⟩,trivial⟩) ?_
 have hv1:0<az V (nl V-1):=by rw[hnV];omega
 refine Y9 h0 hs32 hB0 hV hR0 (by omega) (by omega) (by omega) hv1 (by omega) ?_ rfl
 have hVge:2^(32*(nl V-1))≤V:=by
  rcases Nat.lt_or_ge V (2^(32*(nl V-1)))with h|h
  ·have:=cT.2 h;omega
  ·exact h
 have h1:=Nat.mul_le_mul_right (2^(32*lq)) hVge
 rw[←Nat.pow_add,show 32*(nl V-1)+32*lq=32*nl R0 by omega]at h1
 exact Nat.lt_of_lt_of_le mQ h1
def JS:Spec:=mL (fun A B=>mc A B) fun A B=>[nl A<2^38,nl B<2^38]
theorem K7:∀K args pre r,JS K args pre=some r→aB P sU K args pre r:=oO fun h=>T2 h.1 h.2
end Go.Am.B
