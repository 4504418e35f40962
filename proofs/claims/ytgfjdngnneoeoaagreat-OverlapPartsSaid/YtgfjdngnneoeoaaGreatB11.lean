/- natural.Div: a round, and the whole. -/
import Derived.Test.YtgfjdngnneoeoaaGreatB10
set_option linter.unusedVariables false
namespace Go.Am.B
open Go Go.Am.N AV Proofs.Tryz IntKind
theorem xp {ls:List Nat} {vs:List AV} {os:aD} {s':aK} (hv:bB ls s'=some (vs,os)) {t:Nat} {v:AV} (ht:v.isTuple=false) (h:look t (aG ls vs)=some v):look t s'.cS=some v:=by
 unfold bB at hv
 simp only[ax,Prod.mk.injEq]at hv
 obtain⟨rfl,_⟩:=hv
 exact v9 ht h
theorem T8 {V:Nat} {w:Nat->Nat} (hn:2<=nl V):V=(aB V (nl V-1)*4294967296+aB V (nl V-2))*2^(32*(nl V-2))+val (nl V-2) (aB V)/\
  val (nl V+1) w=((w (nl V)*4294967296+w (nl V-1))*4294967296+w (nl V-2))*2^(32*(nl V-2))+val (nl V-2) w:=by
 obtain⟨k,hk⟩:∃k,nl V=k+2:=⟨nl V-2,aa⟩
 constructor
 ·conv=>lhs;rw[<-gq (N:=V),hk]
  rw[hk,show k+2-1=k+1 by omega,show k+2-2=k by omega,val,val,iB]
  grind
 ·rw[hk,show k+2-1=k+1 by omega,show k+2-2=k by omega,val,val,val,iB,iB]
  grind
section pieces
variable {c:Ctx} (h0:∀k x,c.k0 k=some x->k<9) {Q:aq->aK->Prop} {lq s lu V j:Nat} {q u:Nat->Nat} {s':aK}
include h0 in
theorem Rb (hlu:lu<2^41) (hn:2<=nl V) (hnorm:2^31<=aB V (nl V-1)) (hj:j+nl V<lu) (hjq:j<lq) (hu:∀i,i<lu->u i<2^32) (hW:val (nl V+1) (fun i=>u (j+i))<V*4294967296)
  (fin:∀x u' s',x<4294967296->(∀i,i<lu->u' i<2^32)->(∀i,i<j\/j+nl V<i->u' i=u i)->val (nl V+1) (fun i=>u' (j+i))+x*V=val (nl V+1) (fun i=>u (j+i))->val (nl V+1) (fun i=>u' (j+i))<V->
   bB dD s'=some (fq lq s lu V j,cZ lq lu (cE q j x) u')->Q .normal s'):
  ay P c f133.ntmps oZ ⟨aG dD (fq lq s lu V j),cZ lq lu q u,9⟩ Q:=by
 obtain⟨dV,dW⟩:=T8 (V:=V) (w:=fun i=>u (j+i)) hn
 have hVpos:0<V:=Nat.pos_of_ne_zero (gE.1 aa)
 have hP:0<2^(32*(nl V-2)):=Nat.two_pow_pos _
 have hl1:val (nl V-2) (aB V)<2^(32*(nl V-2)):=ga fun i _=>dS
 have hl2:val (nl V-2) (fun i=>u (j+i))<2^(32*(nl V-2)):=ga fun i _=>hu _ aa
 have hv1:aB V (nl V-1)<4294967296:=dS
 have hv2:aB V (nl V-2)<4294967296:=dS
 have u1:=hu (j+nl V) aa
 have u2:=hu (j+(nl V-1)) aa
 have u3:=hu (j+(nl V-2)) aa
 have hq1:val (nl V+1) (fun i=>u (j+i))/V*V<=val (nl V+1) (fun i=>u (j+i)):=Nat.div_mul_le_self _ _
 have hq2:val (nl V+1) (fun i=>u (j+i))<(val (nl V+1) (fun i=>u (j+i))/V+1)*V:=by
  rw[Nat.mul_comm];exact Nat.lt_mul_div_succ _ hVpos
 generalize hWd:val (nl V+1) (fun i=>u (j+i))=W at*
 generalize hqt:W/V=qt at*
 generalize hv1d:aB V (nl V-1)=v1 at*
 generalize hv2d:aB V (nl V-2)=v2 at*
 obtain⟨top,htop⟩:∃top,u (j+nl V)*4294967296+u (j+(nl V-1))=top:=⟨_,rfl⟩
 rw[htop]at dW
 have ktop:=Qw hP (by decide) dV dW hv2 hl1 hW
 have kini:=afQ hP (by decide) dV dW u3 hl2 aa hq1
 refine ay.hole [1,1,0] ah (aI.bH hT jJ hm 60 oo SP ah ?_)
 have w1:i64.wrap ((nl V:Int)-1)=((nl V-1:Nat):Int):=fe aa aa
 have w3:i64.wrap ((j:Int)+(nl V:Int))=((j+nl V:Nat):Int):=fe aa aa
 have w4:i64.wrap (((j+nl V:Nat):Int)-1)=((j+nl V-1:Nat):Int):=fe aa aa
 rw[w1,w3,w4]
 simp only[ag.all,au,br,Nat.add_zero]
 have e1:j+nl V-1=j+(nl V-1):=aa
 rw[hv1d,e1,cw (x:=(u (j+nl V):Int)) aa aa,sL u1 u2,htop,cw (x:=(v1:Int)) aa aa]
 have htb:top<2^64:=aa
 have e2:u64.wrap ((top:Int).tdiv (v1:Int))=((top/v1:Nat):Int):=by
  rw[<-Int.ofNat_tdiv]
  exact cw aa (by have:=Nat.div_le_self top v1;omega)
 have e3:(top:Int).tmod (v1:Int)=((top%v1:Nat):Int):=(Int.ofNat_tmod _ _).symm
 rw[e2,e3]
 have hdm:=Nat.div_add_mod top v1
 have hml:=Nat.mod_lt top (show 0<v1 by omega)
 have hx34:top/v1<2^34:=by
  rw[Nat.div_lt_iff_lt_mul aa]
  have:2^34*2^31<=2^34*v1:=Nat.mul_le_mul_left _ hnorm
  omega
 refine⟨⟨aa,aa,aa,aa,aa⟩,⟨aa,aa,aa,aa⟩,fun s' hv=>?_⟩
 have e4:j+nl V-2=j+(nl V-2):=aa
 refine ZP (top:=top) (qt:=qt) (v1:=v1) (v2:=v2) (u3:=u (j+(nl V-2))) h0 hlu hn hj hv1d hv2d (by rw[e4]) u3 (by rw[Nat.mul_comm];exact hdm) aa kini hx34 (agF hq1 hW)
  (fun x rest ht h=>PO dV dW hl2 ht hq1 h) (fun x rest ht h=>Zt ht ktop h) hv fun x rest s' hx ht hq hxr hv=>?_
 have kend:=Ys hP dV dW aa hl1 hx ht hxr
 show aI P c f133.ntmps (behind oZ [1,1,0]) s' _
 refine aI.j3 (nx:=9) hv h0 ah rfl jk ?_
 refine ay.hole [1,0,1] ah (aI.bH hT jJ hm 60 vP agK ah fun s' hv=>?_)
 refine XQ h0 hlu hj hx hu hv fun b cc u' s' hb hc hu' hout hval hv=>?_
 show aI P c f133.ntmps (behind tA [1,0,1]) s' _
 have hv:=jI (ls:=dD++[15,17,18]) (l:=[154,155,156]) (vs:=fq lq s lu V j++[.int .u64 (x:Nat),.int .u64 (b:Nat),.int .u64 (cc:Nat)]) hv rfl rfl
 refine aI.j3 (nx:=9) hv h0 ah rfl jk ?_
 refine ay.hole [1,1,0,1] ah (aI.bH hT jJ hm 60 (dD++[15,211]) Rs ah ?_)
 rw[w3]
 simp only[ag.all,au,br,Nat.add_zero,beq_iff_eq]
 have hun:=hu' (j+nl V) aa
 have houtn:u' (j+nl V)=u (j+nl V):=hout _ aa
 obtain⟨g1,g2⟩:=Ml (u:=u' (j+nl V)) (c:=cc) hun hc hb
 rw[g1,g2]
 refine⟨⟨aa,aa⟩,⟨aa,aa⟩,aa,fun s' hv=>?_⟩
 -- the limbs behind the multiplication
 have hWs:W=val (nl V) (fun i=>u (j+i))+u (j+nl V)*2^(32*nl V):=by rw[<-hWd,val]
 have hlow:val (nl V) (fun i=>u' (j+i))<2^(32*nl V):=ga fun i hi=>hu' _ aa
 have hVl:V<2^(32*nl V):=nj
 have put:∀{x:Nat} {u2:Nat->Nat} {s':aK} {Q':aq->aK->Prop},(∀s',Q .normal s'->Q' .normal s')->x<4294967296->(∀i,i<lu->u2 i<2^32)->(∀i,i<j\/j+nl V<i->u2 i=u i)->val (nl V+1) (fun i=>u2 (j+i))+x*V=W->val (nl V+1) (fun i=>u2 (j+i))<V->
   bB (dD++[15]) s'=some (fq lq s lu V j++[.int .u64 (x:Nat)],cZ lq lu q u2)->aI P c f133.ntmps (behind yb [1,1,0,1]) s' Q':=by
  intro x u2 s' Q' hQ hx h1 h2 h3 h4 hv
  refine aI.fE hT jJ hm 60 (nx:=9) hv h0 rfl jk dD Su ah ah ?_
  simp only[ag.all,au,br,Nat.add_zero,beq_iff_eq]
  refine⟨⟨aa,aa⟩,fun s' hv=>hQ _ (fin x u2 s' hx h1 h2 h3 h4 (ee hv rfl ?_))⟩
  simp only[cZ]
  congr 4
  funext k
  exact hU (wrap_u32 aa aa) k
 have hset:(fun j_1=>if j_1=j+nl V then AV.int .u32 (((u' (j+nl V)+4294967296-cc-b)%4294967296:Nat):Int)else aA u' j_1)=aA (cE u' (j+nl V) ((u' (j+nl V)+4294967296-cc-b)%4294967296)):=by
  funext k;exact hU rfl k
 rw[hset]at hv
 have hval2:val (nl V+1) (fun i=>cE u' (j+nl V) ((u' (j+nl V)+4294967296-cc-b)%4294967296) (j+i))=val (nl V) (fun i=>u' (j+i))+(u' (j+nl V)+4294967296-cc-b)%4294967296*2^(32*nl V):=by
  rw[val,kB,val_congr fun k hk=>fS aa]
 have hrho:=xp hv (t:=211) (v:=.bool (((if cc+b<=u' (j+nl V)then 0 else 1:Nat):Int)!=0)) rfl rfl
 refine ay.cond (P:=P) (c:=c) (nt:=f133.ntmps) (b:=.tmp 211) (x:=rL) (y:=.skip) hrho (fun ht=>?_) (fun ht=>?_)
 ·-- one too many
  have hneg:¬cc+b<=u' (j+nl V):=by
   intro h
   rw[if_pos h]at ht
   simp at ht
  have hx0:0<x:=by
   rcases Nat.eq_zero_or_pos x with h|h
   ·subst h
    rw[Nat.zero_mul]at hval
    have h1:0<2^(32*nl V):=Nat.two_pow_pos _
    have:val (nl V) (fun i=>u (j+i))=val (nl V) (fun i=>u (j+i)):=rfl
    have hc0:cc+b=0:=by
     rcases Nat.eq_zero_or_pos (cc+b)with h|h
     ·exact h
     ·have h2:1*2^(32*nl V)<=(cc+b)*2^(32*nl V):=Nat.mul_le_mul_right _ h
      omega
    omega
   ·exact h
  have hv:=jI (ls:=dD++[15]) (l:=[211]) (vs:=fq lq s lu V j++[.int .u64 (x:Nat)]) hv rfl rfl
  have hu2:∀i,i<lu->cE u' (j+nl V) ((u' (j+nl V)+4294967296-cc-b)%4294967296) i<2^32:=iS aa hu'
  refine ay.j3 (nx:=9) hv h0 rfl jk ?_
  refine ay.hole [1,1,0,1] ah (aI.bH hT jJ hm 60 wW afx ah fun s' hv=>?_)
  have hx1:u64.wrap ((x:Int)-1)=((x-1:Nat):Int):=by rw[cw aa aa];omega
  rw[hx1]at hv
  refine Sh (x:=x-1) h0 hlu hj hu2 hv fun c2 u3 s' hc2 hu3 hout3 hval3 hv=>?_
  have hv:=jI (ls:=dD++[15,18]) (l:=[214,215,216]) (vs:=fq lq s lu V j++[.int .u64 ((x-1:Nat):Int),.int .u64 (c2:Nat)]) hv rfl rfl
  show aI P c f133.ntmps (behind rL [1,1,0,1]) s' _
  refine aI.fE hT jJ hm 60 (nx:=9) hv h0 rfl jk (dD++[15]) QO ah ah ?_
  rw[w3]
  simp only[ag.all,au,br,Nat.add_zero,beq_iff_eq]
  refine⟨⟨aa,aa,aa,aa⟩,fun s' hv=>?_⟩
  have hu3n:=hu3 (j+nl V) aa
  have hadd:u32.wrap ((u3 (j+nl V):Int)+u32.wrap (c2:Int))=(((u3 (j+nl V)+c2)%4294967296:Nat):Int):=by
   rw[lC,lC];omega
  rw[hadd]at hv
  have hset3:(fun j_1=>if j_1=j+nl V then AV.int .u32 (((u3 (j+nl V)+c2)%4294967296:Nat):Int)else aA u3 j_1)=aA (cE u3 (j+nl V) ((u3 (j+nl V)+c2)%4294967296)):=by
   funext k;exact hU rfl k
  rw[hset3]at hv
  -- the sum
  have h3top:u3 (j+nl V)=(u' (j+nl V)+4294967296-cc-b)%4294967296:=by rw[hout3 _ aa,kB]
  have hlow3:val (nl V) (fun i=>cE u' (j+nl V) ((u' (j+nl V)+4294967296-cc-b)%4294967296) (j+i))=val (nl V) (fun i=>u' (j+i)):=val_congr fun k hk=>fS aa
  rw[hlow3]at hval3
  have hval4:val (nl V+1) (fun i=>cE u3 (j+nl V) ((u3 (j+nl V)+c2)%4294967296) (j+i))=val (nl V) (fun i=>u3 (j+i))+(u3 (j+nl V)+c2)%4294967296*2^(32*nl V):=by
   rw[val,kB,val_congr fun k hk=>fS aa]
  have hlow4:val (nl V) (fun i=>u3 (j+i))<2^(32*nl V):=ga fun i hi=>hu3 _ aa
  have hxV:x*V=(x-1)*V+V:=by
   obtain⟨y,rfl⟩:∃y,x=y+1:=⟨x-1,aa⟩
   simp[Nat.add_mul]
  have hsum:val (nl V) (fun i=>u3 (j+i))+(u3 (j+nl V)+c2)%4294967296*2^(32*nl V)+(x-1)*V=W/\val (nl V) (fun i=>u3 (j+i))+(u3 (j+nl V)+c2)%4294967296*2^(32*nl V)<V:=by
   have hq3:W<x*V:=by
    -- a borrow was left
    have h1:(u (j+nl V)+1)*2^(32*nl V)<=(cc+b)*2^(32*nl V):=Nat.mul_le_mul_right _ aa
    rw[Nat.add_mul,Nat.one_mul]at h1
    omega
   have hx4:(u3 (j+nl V)+c2)%4294967296*2^(32*nl V)+4294967296*2^(32*nl V)*((u' (j+nl V)+4294967296-cc-b)%4294967296+c2-(u3 (j+nl V)+c2)%4294967296+0)/4294967296=(u3 (j+nl V)+c2)%4294967296*2^(32*nl V)+4294967296*2^(32*nl V)*((u' (j+nl V)+4294967296-cc-b)%4294967296+c2-(u3 (j+nl V)+c2)%4294967296+0)/4294967296:=rfl
   clear hx4
   -- the top aB: u' - cc - b + c2, plus 2^32 or not
   rw[h3top]
   generalize hT1:2^(32*nl V)=T at*
   generalize hL0:val (nl V) (fun i=>u (j+i))=L0 at*
   generalize hL1:val (nl V) (fun i=>u' (j+i))=L1 at*
   generalize hL3:val (nl V) (fun i=>u3 (j+i))=L3 at*
   have hT0:0<T:=by rw[<-hT1];exact Nat.two_pow_pos _
   rw[houtn]
   rw[houtn]at hneg
   generalize hUn:u (j+nl V)=Un at*
   -- L3 + c2 T = L1 + V, L1 + x V = L0 + (cc + b) T, W = L0 + Un T, W < x V < W + V
   have hcase:cc+b=Un+1+(cc+b-Un-1):=aa
   have hd:cc+b-Un<=c2:=by
    rcases Nat.lt_or_ge c2 (cc+b-Un)with h|h
    ·exfalso
     have h5:(Un+c2+1)*T<=(cc+b)*T:=Nat.mul_le_mul_right _ aa
     rw[Nat.add_mul,Nat.add_mul,Nat.one_mul]at h5
     omega
    ·exact h
   have hc21:c2=1:=aa
   have hcb:cc+b=Un+1:=aa
   subst hc21
   have e5:(Un+4294967296-cc-b)%4294967296=4294967295:=aa
   rw[e5]
   rw[hcb,Nat.add_mul,Nat.one_mul]at hval
   simp only[Nat.one_mul]at hval3
   constructor
   ·simp;omega
   ·simp;omega
  rw[<-hval4]at hsum
  refine put (fun _ h=>h) aa (iS aa hu3) (fun k hk=>?_) hsum.1 hsum.2 hv
  rw[fS aa,hout3 k aa,fS aa,hout k aa]
 ·have hpos:cc+b<=u' (j+nl V):=by
   rcases Nat.lt_or_ge (u' (j+nl V)) (cc+b)with h|h
   ·rw[if_neg aa]at ht
    simp at ht
   ·exact h
  refine ay.skip ?_
  have hv:=jI (ls:=dD++[15]) (l:=[211]) (vs:=fq lq s lu V j++[.int .u64 (x:Nat)]) hv rfl rfl
  have e5:(u' (j+nl V)+4294967296-cc-b)%4294967296=u' (j+nl V)-cc-b:=aa
  rw[e5]at hval2 hv
  have e6:u (j+nl V)*2^(32*nl V)=(u' (j+nl V)-cc-b)*2^(32*nl V)+(cc+b)*2^(32*nl V):=by
   rw[<-Nat.add_mul];congr 1;omega
  have h7:val (nl V+1) (fun i=>cE u' (j+nl V) (u' (j+nl V)-cc-b) (j+i))+x*V=W:=by
   rw[hval2];omega
  refine put (fun _ h=>h) hx (iS aa hu') (fun k hk=>?_) h7 ?_ hv
  ·rw[fS aa,hout k aa]
  ·have h8:qt*V<=x*V:=Nat.mul_le_mul_right _ hq
   rw[Nat.add_mul,Nat.one_mul]at hq2
   omega
end pieces
end Go.Am.B
