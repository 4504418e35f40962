/- brepkernellaw06.RootsComplete. -/
import Derived.Test.YtolopdkjjlfgjaaGreatM35a
set_option linter.unusedVariables false
namespace Go.Am.B
open Go Go.Am.N AV af ak IntKind
theorem abq {p:PP} {i:Nat} {n s:Int} (hq1:1<=(fh p).1) (hq2:(fh p).1<=7) (hqb:Bd (fh p) 900) (hi:i<(bf aP p).length) (hl:(bf aP p).length<=10) (F:NA p i) (hg1:1<=fG aP p i) (hg2:(fG aP p i:Int)<=2^60) (hn:-2^60<=n/\n<=2^60) (hs:0<=s/\s<=2^60) {R:ak->List AV×aD->Prop}
  (hR:R .normal (mW p (fh p) (bf aP p) (fG aP p) (n+(eN (aU (bf aP p) i):Nat)) (s+(fG aP p i:Nat)) (i+1),[])):
  ∃t,aH T wP [70,94,200098,101,200108,111,200125,200132,134,139,145] 60 rX [part uX [1,1,1,1,1,1,1,1,1,0,1,0,0]] ⟨aE rX (mW p (fh p) (bf aP p) (fG aP p) n s i),[],0⟩=some t/\t.all R:=by
 have hW:=dI
 refine⟨_,Lz,?_⟩
 have e1:((i:Int)-1).toNat=i-1:=aa
 have sx:=F.dx.sp hq1 hq2 hqb
 have sy:=F.dy.sp hq1 hq2 hqb
 have i1:(i:Int)<((bf aP p).length:Int):=aa
 have mb:∀a b:Rat,-(2:Int)^63<=bC a*bC b/\bC a*bC b<2^63:=fun a b=>by
  rcases sY a with h|h|h<;>rcases sY b with h'|h'|h'<;>rw[h,h']<;>decide
 have gl:¬((fG aP p i:Int)<1):=aa
 have o1:((1:Int):Rat)=1:=rfl
 have c1:(i:Int)+1=((i+1:Nat):Int):=aa
 have hx0:(bC (aU (bf aP p) i).1==(0:Int))=decide ((aU (bf aP p) i).1=0):=rV
 have hev:∀z,(bC (er ((fh p).1,fun i=>aW (rat ((fh p).2 i) ah)) z))=bC (er (fh p) z):=fun z=>rfl
 have hn1:(aU (bf aP p) i).1=(aU (bf aP p) i).2/\((aU (bf aP p) i).1=0\/(aU (bf aP p) i).1=1)->R .normal (mW p (fh p) (bf aP p) (fG aP p) (n+1) (s+(fG aP p i:Nat)) (i+1),[]):=fun h=>by
  have:eN (aU (bf aP p) i)=1:=if_pos h
  rw[this]at hR;exact hR
 have hn0:¬((aU (bf aP p) i).1=(aU (bf aP p) i).2/\((aU (bf aP p) i).1=0\/(aU (bf aP p) i).1=1))->R .normal (mW p (fh p) (bf aP p) (fG aP p) n (s+(fG aP p i:Nat)) (i+1),[]):=fun h=>by
  have:eN (aU (bf aP p) i)=0:=if_neg h
  rw[this,show n+((0:Nat):Int)=n by omega]at hR;exact hR
 have Fp:=F.pt
 have Fs:=F.sg
 have Fo:=F.od
 have i2:(0:Int)<=(i:Int)-1\/i=0:=aa
 simp only[af.all,aA,bE,e1,decide_eq_true i1,decide_eq_false gl,cond_true,cond_false,hx0,hev,o1,c1]
 refine⟨fun _=>⟨⟨⟨aa,aa⟩,aa⟩,⟨aa,mE,aa,hq1,aa,sx,aa,aa,mE,aa,hq1,aa,sy,aa⟩,⟨aa,aa,aa,aa⟩,?_⟩,fun h=>Bool.noConfusion h⟩
 have mb:=mb (er (fh p) (aU (bf aP p) i).1) (er (fh p) (aU (bf aP p) i).2)
 show(decide ((aU (bf aP p) i).1=(aU (bf aP p) i).2)=true->_)/\(decide ((aU (bf aP p) i).1=(aU (bf aP p) i).2)=false->_)
 generalize bC (er (fh p) (aU (bf aP p) i).1)*bC (er (fh p) (aU (bf aP p) i).2)=M at*
 generalize bC (er (fh p) (aU (bf aP p) i).1)=S at*
 generalize iw (aU (bf aP p) (i-1)).2 (aU (bf aP p) i).1=C at*
 have dM:(aU (bf aP p) i).1≠(aU (bf aP p) i).2->(M==1)=false:=fun h=>beq_eq_false_iff_ne.2 (Fs h)
 have dS:(aU (bf aP p) i).1=(aU (bf aP p) i).2->(S !=0)=false:=fun h=>by rw[Fp h];rfl
 by_cases hi0:0<i
 ·have dC:decide (C>0)=false:=decide_eq_false (Fo hi0)
  have d21:decide ((i:Int)>0)=true:=decide_eq_true aa
  by_cases hxy:(aU (bf aP p) i).1=(aU (bf aP p) i).2
  ·have d7:decide ((aU (bf aP p) i).1=(aU (bf aP p) i).2)=true:=decide_eq_true hxy
   by_cases hz:(aU (bf aP p) i).1=0
   ·have dz:decide ((aU (bf aP p) i).1=0)=true:=decide_eq_true hz
    simp only[d7,d21,dC,dS hxy,dz,Bool.not_true,Bool.not_false,Bool.true_eq_false,Bool.false_eq_true,false_implies,true_implies,and_true,true_and,forall_const,implies_true]
    have:=hn1 ⟨hxy,.inl hz⟩
    (repeat' with_reducible refine And.intro ?_ ?_)<;>first|omega|exact this|exact mb.1|exact mb.2
   ·have dz:decide ((aU (bf aP p) i).1=0)=false:=decide_eq_false hz
    by_cases h1:(aU (bf aP p) i).1=1
    ·have d1:decide ((aU (bf aP p) i).1=1)=true:=decide_eq_true h1
     simp only[d7,d21,dC,dS hxy,dz,d1,Bool.not_true,Bool.not_false,Bool.true_eq_false,Bool.false_eq_true,false_implies,true_implies,and_true,true_and,forall_const,implies_true]
     have:=hn1 ⟨hxy,.inr h1⟩
     (repeat' with_reducible refine And.intro ?_ ?_)<;>first|omega|exact this|exact mb.1|exact mb.2|decide
    ·have d1:decide ((aU (bf aP p) i).1=1)=false:=decide_eq_false h1
     simp only[d7,d21,dC,dS hxy,dz,d1,Bool.not_true,Bool.not_false,Bool.true_eq_false,Bool.false_eq_true,false_implies,true_implies,and_true,true_and,forall_const,implies_true]
     have:=hn0 fun h=>h.2.elim hz h1
     (repeat' with_reducible refine And.intro ?_ ?_)<;>first|omega|exact this|exact mb.1|exact mb.2|decide
  ·have d7:decide ((aU (bf aP p) i).1=(aU (bf aP p) i).2)=false:=decide_eq_false hxy
   simp only[d7,d21,dC,dM hxy,Bool.not_true,Bool.not_false,Bool.true_eq_false,Bool.false_eq_true,false_implies,true_implies,and_true,true_and,forall_const,implies_true]
   have:=hn0 fun h=>hxy h.1
   (repeat' with_reducible refine And.intro ?_ ?_)<;>first|omega|exact this|exact mb.1|exact mb.2
 ·have d21:decide ((i:Int)>0)=false:=decide_eq_false aa
  by_cases hxy:(aU (bf aP p) i).1=(aU (bf aP p) i).2
  ·have d7:decide ((aU (bf aP p) i).1=(aU (bf aP p) i).2)=true:=decide_eq_true hxy
   by_cases hz:(aU (bf aP p) i).1=0
   ·have dz:decide ((aU (bf aP p) i).1=0)=true:=decide_eq_true hz
    simp only[d7,d21,dS hxy,dz,Bool.not_true,Bool.not_false,Bool.true_eq_false,Bool.false_eq_true,false_implies,true_implies,and_true,true_and,forall_const,implies_true]
    have:=hn1 ⟨hxy,.inl hz⟩
    (repeat' with_reducible refine And.intro ?_ ?_)<;>first|omega|exact this|exact mb.1|exact mb.2
   ·have dz:decide ((aU (bf aP p) i).1=0)=false:=decide_eq_false hz
    by_cases h1:(aU (bf aP p) i).1=1
    ·have d1:decide ((aU (bf aP p) i).1=1)=true:=decide_eq_true h1
     simp only[d7,d21,dS hxy,dz,d1,Bool.not_true,Bool.not_false,Bool.true_eq_false,Bool.false_eq_true,false_implies,true_implies,and_true,true_and,forall_const,implies_true]
     have:=hn1 ⟨hxy,.inr h1⟩
     (repeat' with_reducible refine And.intro ?_ ?_)<;>first|omega|exact this|exact mb.1|exact mb.2|decide
    ·have d1:decide ((aU (bf aP p) i).1=1)=false:=decide_eq_false h1
     simp only[d7,d21,dS hxy,dz,d1,Bool.not_true,Bool.not_false,Bool.true_eq_false,Bool.false_eq_true,false_implies,true_implies,and_true,true_and,forall_const,implies_true]
     have:=hn0 fun h=>h.2.elim hz h1
     (repeat' with_reducible refine And.intro ?_ ?_)<;>first|omega|exact this|exact mb.1|exact mb.2|decide
  ·have d7:decide ((aU (bf aP p) i).1=(aU (bf aP p) i).2)=false:=decide_eq_false hxy
   simp only[d7,d21,dM hxy,Bool.not_true,Bool.not_false,Bool.true_eq_false,Bool.false_eq_true,false_implies,true_implies,and_true,true_and,forall_const,implies_true]
   have:=hn0 fun h=>hxy h.1
   (repeat' with_reducible refine And.intro ?_ ?_)<;>first|omega|exact this|exact mb.1|exact mb.2
theorem ZB {n:Nat} {z:Nat->Int} (K:Nat):aQ P 5 K [.aq 1 n (fun i=>.int .i64 (z i))] [] (aM (.bool true) []):=by
 have hW:=dI
 obtain⟨p,hpp⟩:∃p,p=l6 n (fun i=>.int .i64 (z i)) 0:=⟨_,rfl⟩
 have hp:lT p:=hpp▸Lw
 have hg:(aJ p).1≠0->dL (aJ p):=fun h=>by rw[hpp]at h ⊢;exact aaw h
 have hll:=aad hg
 have o1:((1:Int):Rat)=1:=rfl
 have cE:(aJ p).1≠0->lH p 0 1=0:=fun h=>by unfold lH;rw[if_neg h,if_neg (by decide)]
 have cN:(aJ p).1≠0->kQ p 0 1=bt (aJ p) 0 1:=fun h=>by unfold kQ;rw[if_pos (cE h),uO]
 have qF:(aJ p).1≠0->1<=(fh p).1/\(fh p).1<=7/\Bd (fh p) 900:=fun h=>by
  obtain⟨f1,f2⟩:=(hg h).free
  have m:=Nat.mul_le_mul f2 f2
  rw[show fh p=sk (aZ (aJ p))from if_neg h]
  exact⟨abH _,by show mz _<=7;unfold mz;split<;>omega,(TC f1.bd).more aa⟩
 have tB:(aJ p).1≠0->sN (fG aP p) (bf aP p).length+1<=(aJ p).1:=fun h=>by
  have h1:=Yn (hg h)
  have e:bf aP p=gT aP (bU (aJ p)) (bN (aJ p)):=if_neg h
  rw[<-e]at h1
  exact h1
 have sm:∀(f:Nat->Nat) i j,i<=j->sN f i<=sN f j:=fun f i j h=>by
  induction h with
  |refl=>exact Nat.le_refl _
  |step _ ih=>exact Nat.le_trans ih (Nat.le_add_right _ _)
 have eB:∀i,sN (fun j=>eN (aU (bf aP p) j)) i<=i:=fun i=>by
  induction i with
  |zero=>exact Nat.le_refl _
  |succ i ih=>
   rw[sN]
   have:eN (aU (bf aP p) i)<=1:=by unfold eN;split<;>omega
   omega
 have l13:(aJ p).1<=13:=hp.gd.len
 have lp:(aJ p).1<=p.1:=fP
 refine nK (r:=aM (.bool true) []) hT T4 hm Q9 rfl bp rfl [1,1,1,1,1,1,1,1,1,0,1] (i:=0) (y:=part uX [1,1,1,1,1,1,1,1,1,0,1,0,0]) (z:=part uX [1,1,1,1,1,1,1,1,1,1]) ag ag ag (f1:=[18,29,100032,100036,100041,200058,200062,200066]) (f2:=[70,94,200098,101,200108,111,200125,200132,134,139,145]) (f3:=[100159,100166]) 60 rX 0
  (fun i:Nat=>mW p (fh p) (bf aP p) (fG aP p) (kQ p 0 1+(sN (fun j=>eN (aU (bf aP p) j)) i:Nat)) (sN (fG aP p) i:Nat) i) (fun _=>[]) (fun i=>(aJ p).1≠0/\i<=(bf aP p).length) (fun i=>(aJ p).1≠0/\i=(bf aP p).length) (fun i=>(bf aP p).length-i) (fun _=>⟨⟨_,V4,?_⟩,fun i ⟨h0,hi⟩=>?_,fun i ⟨h0,hi⟩=>⟨_,Zu,?_⟩⟩) K []
 ·rw[<-hpp]
  simp only[af.all,aA,Bool.not_eq_true',bO,Bool.not_eq_false',bK,cond_true,cond_false,o1]
  refine⟨fun _=>⟨[.bool true],ag,.refl _⟩,fun hn=>⟨⟨⟨fun i=>rfl,aa,aa,aa⟩,Z9⟩,⟨mE,ac0 hp.of hg⟩,fun he=>?_,fun he=>?_⟩⟩
  ·have h0:(aJ p).1=0:=Classical.byContradiction fun h=>by
    have he:((if(aJ p).1=0 then(3:Int)else 0)!=0)=true:=he
    rw[if_neg h]at he;cases he
   have hz:ve p=true:=(XH hp.lo).2 h0
   have hl:bf aP p=[]:=if_pos h0
   refine⟨⟨?_,mE,by have:=hp.hi;omega,hz,?_⟩,[.bool true],ag,.refl _⟩
   ·show((if(aJ p).1=0 then(3:Int)else 0)==3)=true
    rw[if_pos h0];rfl
   ·show(((bf aP p).length:Int)==0)=true
    rw[hl];rfl
  ·have h0:(aJ p).1≠0:=fun h=>by
    have he:((if(aJ p).1=0 then(3:Int)else 0)!=0)=false:=he
    rw[if_pos h]at he;cases he
   obtain⟨q1,q2,q3⟩:=qF h0
   have hct:=(hp.cnt (a:=0) (b:=1) (A:=1) (B:=1) MS (by decide) (by decide) M4 (by decide) (by decide)).1
   refine⟨⟨mE,hp.of,(WJ hp).1⟩,⟨aa,aa,mE,aa,by rw[hW];decide,hct⟩,⟨?_,?_⟩,?_,0,⟨h0,Nat.zero_le _⟩,?_⟩
   ·show(zE (aJ p).1!=0)=false
    rw[Vb h0];rfl
   ·show(lH p 0 1!=0)=false
    rw[cE h0];rfl
   ·show(((fh p).1:Int)==0)=false
    exact beq_eq_false_iff_ne.2 aa
   ·show fU [] (mW p (fh p) (bf aP p) (fG aP p) (kQ p 0 1) 0 0,[]) (mW p (fh p) (bf aP p) (fG aP p) (kQ p 0 1+((0:Nat):Int)) ((0:Nat):Int) 0) [] 0
    rw[show kQ p 0 1+((0:Nat):Int)=kQ p 0 1 by omega];exact .vals rfl
 ·have hc:=hg h0
  obtain⟨q1,q2,q3⟩:=qF h0
  by_cases hi2:i<(bf aP p).length
  ·have b1:=L8 hc.nU 0 1
   have b2:=hc.nU.vu 0 1
   have s1:=sm (fG aP p) (i+1) (bf aP p).length aa
   have s2:=tB h0
   have s3:sN (fG aP p) (i+1)=sN (fG aP p) i+fG aP p i:=rfl
   have s4:=eB i
   rw[cN h0]
   refine abq q1 q2 q3 hi2 hll (ZA hc hi2) (H6 _) aa aa aa ⟨i+1,⟨h0,aa⟩,by dsimp only;omega,?_⟩
   show fU [] (mW p (fh p) (bf aP p) (fG aP p) (bt (aJ p) 0 1+(sN (fun j=>eN (aU (bf aP p) j)) i:Nat)+(eN (aU (bf aP p) i):Nat)) ((sN (fG aP p) i:Nat)+(fG aP p i:Nat)) (i+1),[]) (mW p (fh p) (bf aP p) (fG aP p) (bt (aJ p) 0 1+((sN (fun j=>eN (aU (bf aP p) j)) i+eN (aU (bf aP p) i):Nat):Int)) ((sN (fG aP p) i+fG aP p i:Nat):Int) (i+1)) [] 0
   rw[Int.natCast_add,Int.natCast_add,<-Int.add_assoc];exact .vals rfl
  ·refine⟨_,Lz,?_⟩
   have i1:¬(i:Int)<((bf aP p).length:Int):=aa
   simp only[af.all,decide_eq_false i1]
   exact⟨fun h=>Bool.noConfusion h,fun _=>⟨rfl,i,⟨h0,aa⟩,.vals rfl⟩⟩
 ·subst hi
  have hc:=hg h0
  have e:bf aP p=gT aP (bU (aJ p)) (bN (aJ p)):=if_neg h0
  have s2:=tB h0
  have hends:=Up hc
  rw[<-e]at hends
  rw[<-BR]at hends
  simp only[af.all,aA,cond_true]
  have l3:=hp.hi
  refine⟨⟨?_,aa,?_⟩,.refl _⟩
  ·rw[cN h0];exact beq_iff_eq.2 hends
  ·exact decide_eq_true aa
end Go.Am.B
