/- natural.Div: the whole. -/
import Derived.Test.YtgfjdngnneoeoaaGreatB11
set_option linter.unusedVariables false
namespace Go.Am.B
open Go Go.Am.N AV Proofs.Tryz IntKind
theorem aI.cat {P:Program} {c:Ctx} {nt:Nat} {Q:aq->aK->Prop}:∀{a b:List Code} {s:aK},aI P c nt a s (ey (fun s'=>aI P c nt b s' Q) Q)->aI P c nt (a++b) s Q
 |[],b,s,h=>h
 |x::a,b,s,h=>ay.mono h fun e s' h=>by
  cases e with
  |normal=>exact aI.cat (a:=a) h
  |exit i=>exact h
  |ret=>exact h
theorem aI.chunk {P:Program} {c:Ctx} {nt:Nat} {Q:aq->aK->Prop} {l:List Code} {s:aK} (k:Nat) (h:aI P c nt (l.take k) s (ey (fun s'=>aI P c nt (l.drop k) s' Q) Q)):aI P c nt l s Q:=by
 have:=aI.cat h
 rwa [List.take_append_drop]at this
theorem Md {B s:Nat} (hB:B≠0) (hs:s=32-bN (aB B (nl B-1))):s<32/\nl (B*2^s)=nl B/\2^31<=aB (B*2^s) (nl B-1)/\B*2^s<2^(32*nl B):=by
 have hp:=gE.2 hB
 have htop:=BO hB
 have hlt:=dS (N:=B) (i:=nl B-1)
 have hk:bN (aB B (nl B-1))<=32:=ki.2 hlt
 have hk0:0<bN (aB B (nl B-1)):=by unfold bN;rw[if_neg htop];omega
 have h1:aB B (nl B-1)<2^bN (aB B (nl B-1)):=ki.1 aR
 have h2:2^(bN (aB B (nl B-1))-1)<=aB B (nl B-1):=by
  rcases Nat.lt_or_ge (aB B (nl B-1)) (2^(bN (aB B (nl B-1))-1))with h|h
  ·have:=ki.2 h;omega
  ·exact h
 have hBd:B=val (nl B-1) (aB B)+aB B (nl B-1)*2^(32*(nl B-1)):=by
  have:=gq (N:=B)
  obtain⟨k,hk⟩:∃k,nl B=k+1:=⟨nl B-1,aa⟩
  rw[hk,val]at this
  rw[hk,Nat.add_sub_cancel]
  exact this.symm
 have hlow:val (nl B-1) (aB B)<2^(32*(nl B-1)):=ga fun i _=>dS
 generalize hb1:aB B (nl B-1)=b1 at*
 generalize hkd:bN b1=k at*
 generalize hlo:val (nl B-1) (aB B)=low at*
 have hT:0<2^(32*(nl B-1)):=Nat.two_pow_pos _
 have eT:2^(32*nl B)=2^32*2^(32*(nl B-1)):=by rw[<-Nat.pow_add];congr 1;omega
 have hS:0<2^s:=Nat.two_pow_pos _
 have hks:2^k*2^s=2^32:=by rw[<-Nat.pow_add];congr 1;omega
 have hks1:2^(k-1)*2^s=2^31:=by rw[<-Nat.pow_add];congr 1;omega
 have hlo1:2^31<=b1*2^s:=by rw[<-hks1];exact Nat.mul_le_mul_right _ h2
 have hhi1:(b1+1)*2^s<=2^32:=by rw[<-hks];exact Nat.mul_le_mul_right _ h1
 obtain⟨T,hTd⟩:∃T,T=2^(32*(nl B-1)):=⟨_,rfl⟩
 rw[<-hTd]at hT eT hBd hlow
 have hVlt:B*2^s<2^32*T:=by
  have a1:B<(b1+1)*T:=by rw[Nat.add_mul,Nat.one_mul];omega
  have a2:B*2^s<(b1+1)*T*2^s:=(Nat.mul_lt_mul_right hS).2 a1
  have a3:(b1+1)*T*2^s=(b1+1)*2^s*T:=by rw[Nat.mul_assoc,Nat.mul_comm T,<-Nat.mul_assoc]
  have a4:(b1+1)*2^s*T<=2^32*T:=Nat.mul_le_mul_right _ hhi1
  omega
 have hVge:b1*2^s*T<=B*2^s:=by
  have a1:b1*T*2^s<=B*2^s:=Nat.mul_le_mul_right _ aa
  have a3:b1*T*2^s=b1*2^s*T:=by rw[Nat.mul_assoc,Nat.mul_comm T,<-Nat.mul_assoc]
  omega
 have hV31:2^31*T<=B*2^s:=Nat.le_trans (Nat.mul_le_mul_right _ hlo1) hVge
 refine⟨aa,?_,?_,by rw[eT];exact hVlt⟩
 ·have a1:nl (B*2^s)<=nl B:=dL.2 (by rw[eT];exact hVlt)
  have a2:¬nl (B*2^s)<=nl B-1:=by
   rw[dL,<-hTd]
   omega
  omega
 ·unfold aB
  rw[<-hTd]
  have a1:B*2^s/T<2^32:=by rw[Nat.div_lt_iff_lt_mul hT];exact hVlt
  have a2:2^31<=B*2^s/T:=by rw[Nat.le_div_iff_mul_le hT];exact hV31
  rw[Nat.mod_eq_of_lt a1];exact a2
section pieces
variable {c:Ctx} (h0:∀k x,c.k0 k=some x->k<9) {Q:aq->aK->Prop} {lq s lu V:Nat} {q u:Nat->Nat} {s':aK}
include h0 in
theorem XC {N:Nat} (hlu:lu=lq+nl V) (hlu2:lu<2^41) (hn:2<=nl V) (hnorm:2^31<=aB V (nl V-1)) (hu:∀i,i<lu->u i<2^32) (hN:val lu u=N) (hlt:N<V*2^(32*lq))
  (hv:bB dD s'=some (fq lq s lu V ((lq:Int)-1),cZ lq lu (fun _=>0) u))
  (fin:∀q u s',(∀i,i<lu->u i<2^32)->(∀i,i<lq->q i<2^32)->val lq q*V+val lu u=N->val lu u<V->bB dD s'=some (fq lq s lu V (-1),cZ lq lu q u)->Q .normal s'):
  ay P c f133.ntmps (part (aF f133) nw) s' Q:=by
 refine ay.iF (i:=1) (y:=vJ) ah dD 9 h0 (fun p:Nat×(Nat->Nat)×(Nat->Nat)=>fq lq s lu V ((p.1:Int)-1)) (fun p=>cZ lq lu p.2.1 p.2.2) (fun _=>rfl) (fun _=>jk)
  (fun p=>p.1<=lq/\(∀i,i<lu->p.2.2 i<2^32)/\(∀i,i<lq->p.2.1 i<2^32)/\(∀i,i<p.1->p.2.1 i=0)/\(∀i,p.1+nl V<=i->i<lu->p.2.2 i=0)/\val lq p.2.1*V+val (p.1+nl V) p.2.2=N/\val (p.1+nl V) p.2.2<V*2^(32*p.1))
  (fun p=>p.1) (lq,(fun _=>0),u) hv ⟨by simp,hu,fun i _=>by simp,fun i _=>rfl,fun i h1 h2=>by simp only at h1;omega,?_,?_⟩ ?_
 ·simp only;rw[val_zero fun _ _=>rfl,<-hlu,hN];omega
 ·simp only;rw[<-hlu,hN];exact hlt
 rintro⟨m,q,u⟩ ⟨hm',hu,hq,hq0,hu0,hval,hlt⟩
 simp only at hm' hu hq hq0 hu0 hval hlt
 refine ay.hole [1,0] ah (aI.bH hT jJ hm 60 dD aeg ah ?_)
 simp only[ag.all,bz,bG]
 refine⟨fun hb s' hv=>?_,fun hb s' hv=>?_⟩
 ·obtain⟨j,rfl⟩:∃j,m=j+1:=⟨m-1,aa⟩
  have hv:bB dD s'=some (fq lq s lu V (j:Nat),cZ lq lu q u):=ee hv (by
   simp only[fq,List.cons.injEq,AV.int.injEq,and_true,true_and];omega) rfl
  have hsplit:=val_add (z:=u) (a:=j) (b:=nl V+1)
  rw[show j+(nl V+1)=j+1+nl V by omega]at hsplit
  have hBj:0<2^(32*j):=Nat.two_pow_pos _
  have hW:val (nl V+1) (fun i=>u (j+i))<V*4294967296:=by
   have e:V*2^(32*(j+1))=V*4294967296*2^(32*j):=by rw[iB,Nat.mul_assoc]
   rw[e]at hlt
   refine Nat.lt_of_mul_lt_mul_right (a:=2^(32*j)) ?_
   omega
  refine ay.o9 (i:=2) (y:=oZ) ah (ay.j3 (nx:=9) hv h0 rfl jk ?_)
  refine Rb h0 hlu2 hn hnorm aa aa hu hW fun x u' s' hx hu' hout hsum hlt' hv=>?_
  show aI P c f133.ntmps (behind vJ [1,0]) s' _
  refine aI.fE hT jJ hm 60 (nx:=9) hv h0 rfl jk dD Si ah ah fun s' hv=>?_
  have hjl:val j u'=val j u:=val_congr fun i hi=>hout i aa
  have hsplit':=val_add (z:=u') (a:=j) (b:=nl V+1)
  have hVl:V<2^(32*nl V):=nj
  have htop0:u' (j+nl V)=0:=VX (z:=fun i=>u' (j+i)) (n:=nl V) aa
  have hsplit2:=val_add (z:=u') (a:=j) (b:=nl V)
  have hw1:val (nl V+1) (fun i=>u' (j+i))=val (nl V) (fun i=>u' (j+i)):=by rw[val,htop0];simp
  have hjlt:val j u<2^(32*j):=ga fun i hi=>hu i aa
  refine⟨(j,cE q j x,u'),ee hv ?_ rfl,⟨by simp only;omega,hu',iS hx hq,fun i hi=>?_,fun i h1 h2=>?_,?_,?_⟩,by simp only;omega⟩
  ·simp only[fq,List.cons.injEq,AV.int.injEq,and_true,true_and]
   rw[wrap_i64 aa aa]
  ·simp only at hi ⊢
   rw[fS aa];exact hq0 i aa
  ·simp only at h1
   show u' i=0
   by_cases hi:i=j+nl V
   ·subst hi;exact htop0
   ·rw[hout i aa];exact hu0 i aa h2
  ·simp only
   rw[qc aa (hq0 j aa),hsplit2,hjl,<-hw1]
   rw[hsplit,<-hsum]at hval
   rw[Nat.add_mul]at hval ⊢
   rw[show x*2^(32*j)*V=x*V*2^(32*j) by rw[Nat.mul_assoc,Nat.mul_comm (2^(32*j)),<-Nat.mul_assoc]]
   omega
  ·simp only
   rw[hsplit2,hjl,<-hw1]
   have:=Nat.mul_le_mul_right (2^(32*j)) hlt'
   rw[Nat.succ_mul]at this
   omega
 ·have hm0:m=0:=aa
  subst hm0
  refine qq (fK (fin q u s' hu hq ?_ ?_ (ee hv rfl rfl)))
  ·rw[m7 (k:=0+nl V) aa hu0];exact hval
  ·rw[m7 (k:=0+nl V) aa hu0];simpa using hlt
theorem XS {x s:Nat} (h:s<32):(x:Int).fdiv (2^min ((s:Int).toNat) u32.bits)=((x/2^s:Nat):Int):=by
 have:=uR (x:=x) (s:=(s:Int)) aa aa
 simpa using this
theorem ZN {a b:Nat} (ha:a<2^32) (hb:b<2^32):
  u32.wrap ((BitVec.ofInt u32.bits (a:Int)|||BitVec.ofInt u32.bits (b:Int)).toNat:Int)=((a|||b:Nat):Int):=by
 have e:(BitVec.ofInt u32.bits (a:Int)|||BitVec.ofInt u32.bits (b:Int)).toNat=a|||b:=by
  rw[BitVec.toNat_or,BitVec.ofInt_natCast,BitVec.ofInt_natCast,BitVec.toNat_ofNat,BitVec.toNat_ofNat]
  rw[show u32.bits=32 from rfl,Nat.mod_eq_of_lt ha,Nat.mod_eq_of_lt hb]
 rw[e]
 have:a|||b<2^32:=Nat.or_lt_two_pow ha hb
 exact wrap_u32 aa aa
theorem U7 {a b s:Nat} (hs:s<32) (ha:a<2^32):u32.wrap ((BitVec.ofInt u32.bits ((a/2^s:Nat):Int)|||BitVec.ofInt u32.bits (u32.wrap ((b:Int)*2^min (32-s) u32.bits))).toNat:Int)=
  ((a/2^s+b%2^s*2^(32-s):Nat):Int):=by
 have hB:2^32=2^s*2^(32-s):=by rw[<-Nat.pow_add];congr 1;omega
 have h1:a/2^s<2^(32-s):=by
  rw[Nat.div_lt_iff_lt_mul (Nat.two_pow_pos _),Nat.mul_comm,<-hB];exact ha
 have e1:u32.wrap ((b:Int)*2^min (32-s) u32.bits)=((b%2^s*2^(32-s):Nat):Int):=by
  rw[show u32.bits=32 from rfl,Nat.min_eq_left aa]
  rw[show(b:Int)*2^(32-s)=((b*2^(32-s):Nat):Int) by simp,jP]
  congr 1
  rw[hB,Nat.mul_comm (2^s),Nat.mul_comm b,Nat.mul_mod_mul_left,Nat.mul_comm]
 have h2:b%2^s*2^(32-s)<2^32:=by
  rw[hB]
  exact(Nat.mul_lt_mul_right (Nat.two_pow_pos _)).2 (Nat.mod_lt _ (Nat.two_pow_pos _))
 have h3:a/2^s<2^32:=Nat.lt_of_le_of_lt (Nat.div_le_self _ _) ha
 rw[e1,ZN h3 h2]
 congr 1
 rw[Nat.or_comm,qO h1,Nat.add_comm]
abbrev mm:List Nat:=[4,5,9,261,262]
abbrev rj (lq s l i:Nat):List AV:=[.own 8 1 0 lq,.own 7 1 0 l,.int .i64 s,.int .i64 l,.int .i64 (i:Nat)]
include h0 in
theorem PU {l R:Nat} (hs:s<32) (hlu:lu<2^41) (hl:nl R=l) (hl2:l<=lu) (hu:∀i,i<lu->u i<2^32) (hR:∀i,i<l->u i=aB R i)
  (hv:bB mm s'=some (rj lq s l 0,cZ lq lu q u))
  (fin:∀w s',(∀i,i<lu->w i<2^32)->val l w=R/2^s->bB mm s'=some (rj lq s l l,cZ lq lu q w)->Q .normal s'):
  ay P c f133.ntmps (part lY [1,0,1]) s' Q:=by
 refine ay.iF (i:=9) (y:=part lY [1,0,1,0,0]) ah mm 9 h0 (fun p:Nat×(Nat->Nat)=>rj lq s l p.1) (fun p=>cZ lq lu q p.2) (fun _=>rfl) (fun _=>jk)
  (fun p=>p.1<=l/\(∀i,i<lu->p.2 i<2^32)/\(∀i,i<p.1->p.2 i=aB (R/2^s) i)/\(∀i,p.1<=i->p.2 i=u i))
  (fun p=>l-p.1) (0,u) hv ⟨by simp,hu,fun i hi=>by simp only at hi;omega,fun i _=>rfl⟩ ?_
 rintro⟨i,w⟩ ⟨hi,hw,hdone,hrest⟩
 simp only at hi hw hdone hrest
 refine ay.hole [1,1,0] ah (aI.bH hT vi hm 60 mm aap ah ?_)
 simp only[ag.all,bz,bG]
 refine⟨fun hb s' hv=>?_,fun hb s' hv=>?_⟩
 ·have hil:i<l:=aa
  have hwi:w i=aB R i:=by rw[hrest i aa,hR i hil]
  refine ay.o9 (i:=10) (y:=part lY [1,0,1,0,0,1,1,0,0]) ah (ay.j3 (nx:=9) hv h0 rfl jk ?_)
  refine ay.hole [1,1] ah (aI.bH hT vi hm 60 [4,5,9,25,261,262] ZI ah ?_)
  rw[XS hs]
  simp only[ag.all,au,br,Nat.add_zero,beq_iff_eq]
  refine⟨⟨aa,aa,aa,aa,aa⟩,fun s' hv=>?_⟩
  have hset:(fun j=>if j=i then AV.int .u32 ((w i/2^s:Nat):Int)else aA w j)=aA (cE w i (w i/2^s)):=by
   funext k;exact hU rfl k
  rw[hset]at hv
  have hw1:∀k,k<lu->cE w i (w i/2^s) k<2^32:=iS (Nat.lt_of_le_of_lt (Nat.div_le_self _ _) (hw i aa)) hw
  have next:∀{w':Nat->Nat} {s':aK} {Q':aq->aK->Prop},(∀k,k<lu->w' k<2^32)->w' i=aB (R/2^s) i->(∀k,k≠i->w' k=w k)->bB mm s'=some (rj lq s l i,cZ lq lu q w')->
    aI P c f133.ntmps (behind (part lY [1,0,1,0,0]) [1,1,0]) s' (ey (fun s'=>∃k:Nat×(Nat->Nat),bB mm s'=some (rj lq s l k.1,cZ lq lu q k.2)/\(k.1<=l/\(∀i,i<lu->k.2 i<2^32)/\(∀i,i<k.1->k.2 i=aB (R/2^s) i)/\(∀i,k.1<=i->k.2 i=u i))/\l-k.1<l-i) Q'):=by
   intro w' s' Q' h1 h2 h3 hv
   refine aI.fE hT vi hm 60 (nx:=9) hv h0 rfl jk mm XA ah ah fun s' hv=>?_
   refine⟨(i+1,w'),ee hv ?_ rfl,⟨by simp only;omega,h1,fun k hk=>?_,fun k hk=>?_⟩,by simp only;omega⟩
   ·rw[fe (a:=(i:Int)+1) (n:=i+1) aa aa]
   ·simp only at hk ⊢
    by_cases hki:k=i
    ·rw[hki];exact h2
    ·rw[h3 k hki];exact hdone k aa
   ·simp only at hk ⊢
    rw[h3 k aa];exact hrest k aa
  refine ay.fE hT vi hm 60 (nx:=9) hv h0 rfl jk mm UK ah ?_
  have w1:i64.wrap ((i:Int)+1)=((i+1:Nat):Int):=fe aa aa
  have w2:i64.wrap (32-(s:Int))=((32-s:Nat):Int):=fe aa aa
  rw[w1,w2]
  simp only[br,Nat.add_zero,kB]
  rw[U7 hs (hw i aa)]
  have e1:cE w i (w i/2^s) (i+1)=w (i+1):=fS aa
  rw[e1]
  have same:aB R (i+1)%2^s=0->∀{s':aK},bB mm s'=some (rj lq s l i,cZ lq lu q (cE w i (w i/2^s)))->∀{Q':aq->aK->Prop},aI P c f133.ntmps (behind (part lY [1,0,1,0,0]) [1,1,0]) s' (ey (fun s'=>∃k:Nat×(Nat->Nat),bB mm s'=some (rj lq s l k.1,cZ lq lu q k.2)/\(k.1<=l/\(∀i,i<lu->k.2 i<2^32)/\(∀i,i<k.1->k.2 i=aB (R/2^s) i)/\(∀i,k.1<=i->k.2 i=u i))/\l-k.1<l-i) Q'):=by
   intro h s' hv Q'
   refine next hw1 ?_ (fun k hk=>fS hk) hv
   rw[kB,wz hs,h,hwi];simp
  refine⟨fun h1=>⟨h1,fun h2=>?_,fun h2 s' hv=>?_⟩,fun h1=>⟨h1,fun h2=>by simp at h2,fun h2 s' hv=>?_⟩⟩
  ·have h2':i+1<l:=by
    have:=of_decide_eq_true (show decide (((i+1:Nat):Int)<(l:Int))=true from h2)
    omega
   simp only[ag.all,au,beq_iff_eq]
   refine⟨⟨aa,aa,aa,aa,aa,aa,aa⟩,fun s' hv=>?_⟩
   have hset2:(fun j=>if j=i then AV.int .u32 ((w i/2^s+w (i+1)%2^s*2^(32-s):Nat):Int)else aA (cE w i (w i/2^s)) j)=aA (cE w i (w i/2^s+w (i+1)%2^s*2^(32-s))):=by
    funext k
    unfold aA cE
    by_cases hk:k=i
    ·simp[hk]
    ·simp[hk]
   rw[hset2]at hv
   have hwi1:w (i+1)=aB R (i+1):=by rw[hrest _ aa,hR _ h2']
   have hval:w i/2^s+w (i+1)%2^s*2^(32-s)=aB (R/2^s) i:=by rw[wz hs,hwi,hwi1]
   refine next (iS (by rw[hval];exact dS) hw) ?_ (fun k hk=>fS hk) hv
   rw[kB];exact hval
  ·refine same ?_ hv
   have h2':¬i+1<l:=by
    have:=of_decide_eq_false (show decide (((i+1:Nat):Int)<(l:Int))=false from h2)
    omega
   have hR0:R<2^(32*(i+1)):=dL.1 aa
   unfold aB
   rw[Nat.div_eq_of_lt hR0];simp
  ·have:s=0:=by
    have:=of_decide_eq_false h1
    omega
   refine same ?_ hv
   subst this
   simp[Nat.mod_one]
 ·have hil:i=l:=aa
  subst hil
  refine qq (fK (fin w s' hw ?_ hv))
  rw[val_congr hdone,pU]
  exact Nat.lt_of_le_of_lt (Nat.div_le_self _ _) (dL.1 aa)
end pieces
end Go.Am.B
