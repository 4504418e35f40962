/- natural.Div: its loops. -/
import Derived.Test.YtolopdkjjlfgjaaGreatB9
set_option linter.unusedVariables false
namespace Go.Am.B
open Go Go.Am.N AV Proofs.Tryz IntKind
theorem j0:bU P GD:=aL HE (aL D4 (aL UO (aL adJ (aL ahS iM))))
theorem yR:bU P GT:=aL QT cG
section pieces
variable {c:Ctx} (h0:∀k x,c.k0 k=some x->k<9) {Q:aq->aK->Prop} {lq s lu V j:Nat} {q u:Nat->Nat} {s':aK}
theorem jJ {lq lu:Nat} {q u:Nat->Nat}:jA 9 (dK lq lu q u):=⟨⟨aa,fun _ _=>rfl⟩,⟨aa,fun _ _=>rfl⟩,trivial⟩
theorem fR {a:Int} {n:Nat} (h:a=n) (hn:n<2^63):i64.wrap a=(n:Int):=by rw[h,wrap_i64 aa aa]
theorem jt {a b v:Bool} (h:(bif false then a else b)=v):b=v:=h
theorem ND {a b:Nat} (h:(a:Int)>(b:Int)):b<a:=aa
theorem agK {a b:Nat} (h:¬(a:Int)>(b:Int)):a<=b:=aa
abbrev qa:List Nat:=ej++[15,16]
abbrev xK (lq s lu V:Nat) (j x:Int) (rest:Nat):List AV:=fS lq s lu V j++[.int .u64 x,.int .u64 (rest:Nat)]
include h0 in
theorem aeA {top qt v1 v2 u3 x0 r0:Nat} (hlu:lu<2^41) (hn:2<=nl V) (hj:j+nl V<lu) (e1:aD V (nl V-1)=v1) (e2:aD V (nl V-2)=v2) (e3:u (j+nl V-2)=u3) (hu3:u3<4294967296)
  (hx0:x0*v1+r0=top) (hr0:r0<4294967296) (hq0:qt<=x0) (hx33:x0<2^34)
  (hbig:qt<4294967296) (hstep:∀x rest,x*v1+rest=top->rest*4294967296+u3<x*v2->qt<x) (hsmall:∀x rest,x*v1+rest=top->4294967296<=rest->x<4294967296)
  (hv:bA qa s'=some (xK lq s lu V j x0 r0,dK lq lu q u))
  (fin:∀x rest s',x<4294967296->x*v1+rest=top->qt<=x->x*v2<=rest*4294967296+u3->bA qa s'=some (xK lq s lu V j x rest,dK lq lu q u)->Q .normal s'):
  au P c f168.ntmps (part rI [1,1,0]) s' Q:=by
 refine au.jh (i:=3) (y:=part rI [1,1,0,0,0]) ah qa 9 h0 (fun p:Nat×Nat=>xK lq s lu V j p.1 p.2) (fun _=>dK lq lu q u) (fun _=>rfl) (fun _=>jJ)
  (fun p=>p.1*v1+p.2=top/\p.2<4294967296/\qt<=p.1/\p.1<2^34) (fun p=>p.1) (x0,r0) hv ⟨hx0,hr0,hq0,hx33⟩ ?_
 rintro⟨x,rest⟩ ⟨ht,hr,hq,hx⟩
 simp only at ht hr hq hx
 show au P c f168.ntmps _ ⟨aB qa (xK lq s lu V j (x:Int) rest),dK lq lu q u,9⟩ _
 obtain⟨X,hX⟩:∃X:Int,X=(x:Int):=⟨_,rfl⟩
 rw[<-hX]
 refine au.bL hT j0 hm 60 qa (VS (x:=X)) ah ?_
 rw[hX]
 have w1:i64.wrap ((nl V:Int)-1)=((nl V-1:Nat):Int):=fR aa aa
 have w2:i64.wrap ((nl V:Int)-2)=((nl V-2:Nat):Int):=fR aa aa
 have w3:i64.wrap ((j:Int)+(nl V:Int))=((j+nl V:Nat):Int):=fR aa aa
 have w4:i64.wrap (((j+nl V:Nat):Int)-2)=((j+nl V-2:Nat):Int):=fR aa aa
 have hv1:aD V (nl V-1)<4294967296:=eO
 have hv2:aD V (nl V-2)<4294967296:=eO
 have w5:u64.wrap ((rest:Int)+u64.wrap (aD V (nl V-1):Int))=((rest+v1:Nat):Int):=by
  rw[cJ (x:=(aD V (nl V-1):Int)) aa aa,cJ aa aa,e1];omega
 rw[w1,w2,w3,w4]
 simp only[af.all,az,bG,Nat.add_zero,w5,e3]
 rw[uG hr hu3]
 have next:∀{s':aK},qt<x->rest+v1<4294967296->bA qa s'=some ([.own 8 1 0 lq,.int .i64 s,.own 7 1 0 lu,.mag V,.int .i64 (nl V),.int .i64 j,.int .u64 (u64.wrap ((x:Int)-1)),.int .u64 ((rest+v1:Nat):Int)],dK lq lu q u)->
   ∃k:Nat×Nat,bA qa s'=some (xK lq s lu V j k.1 k.2,dK lq lu q u)/\(k.1*v1+k.2=top/\k.2<4294967296/\qt<=k.1/\k.1<2^34)/\k.1<x:=by
  intro s' h1 h2 hv
  refine⟨(x-1,rest+v1),?_,⟨?_,h2,by simp only;omega,by simp only;omega⟩,by simp only;omega⟩
  ·refine eP hv ?_ rfl
   rw[cJ (x:=(x:Int)-1) aa aa,show(x:Int)-1=((x-1:Nat):Int) by omega]
   rfl
  ·simp only
   obtain⟨y,rfl⟩:∃y,x=y+1:=⟨x-1,aa⟩
   rw[Nat.add_mul]at ht
   simp only[Nat.add_sub_cancel];omega
 have last:∀{s':aK},qt<x->4294967296<=rest+v1->bA qa s'=some ([.own 8 1 0 lq,.int .i64 s,.own 7 1 0 lu,.mag V,.int .i64 (nl V),.int .i64 j,.int .u64 (u64.wrap ((x:Int)-1)),.int .u64 ((rest+v1:Nat):Int)],dK lq lu q u)->Q .normal s':=by
  intro s' h1 h2 hv
  have ht':(x-1)*v1+(rest+v1)=top:=by
   obtain⟨y,rfl⟩:∃y,x=y+1:=⟨x-1,aa⟩
   rw[Nat.add_mul]at ht
   simp only[Nat.add_sub_cancel];omega
  have hsm:=hsmall _ _ ht' h2
  refine fin (x-1) (rest+v1) s' hsm ht' aa ?_ (eP hv ?_ rfl)
  ·have a1:(x-1)*v2<=4294967295*4294967295:=Nat.mul_le_mul aa aa
   omega
  ·rw[cJ (x:=(x:Int)-1) aa aa,show(x:Int)-1=((x-1:Nat):Int) by omega]
   rfl
 refine⟨fun hb=>⟨hb,fun _=>⟨aa,fun h1 s' hv=>?_,fun h1 s' hv=>?_⟩,fun h=>by simp at h⟩,fun hb=>⟨⟨hb,aa,aa,aa,aa⟩,?_⟩⟩
 ·simp only[bD]at hb h1
  exact gv (last aa aa hv)
 ·simp only[bD,bI]at hb h1
  exact next aa aa hv
 ·simp only[bI]at hb
  have hxB:x<4294967296:=aa
  have m1:x*aD V (nl V-2)<=(2^32-1)*(2^32-1):=Nat.mul_le_mul aa aa
  have w6:u64.wrap ((x:Int)*u64.wrap (aD V (nl V-2):Int))=((x*v2:Nat):Int):=by
   rw[cJ (x:=(aD V (nl V-2):Int)) aa aa,e2]
   have:(x:Int)*(v2:Int)=((x*v2:Nat):Int):=by simp
   rw[this,cJ aa (by rw[e2]at m1;omega)]
  rw[w6]
  refine⟨fun h1=>⟨aa,fun h2 s' hv=>?_,fun h2 s' hv=>?_⟩,fun h1 s' hv=>?_⟩
  ·simp only[bD]at h2
   exact gv (last (hstep x rest ht (ND (of_decide_eq_true (jt h1)))) (by clear h1 w6 m1;omega) hv)
  ·simp only[bI]at h2
   exact next (hstep x rest ht (ND (of_decide_eq_true (jt h1)))) (by clear h1 w6 m1;omega) hv
  ·skip
   exact gv (fin x rest s' hxB ht hq (agK (of_decide_eq_false (jt h1))) hv)
abbrev zZ:List Nat:=ej++[15,17,18,154,155,156]
abbrev AZ (lq s lu V:Nat) (j:Int) (x b c i:Nat):List AV:=fS lq s lu V j++[.int .u64 (x:Nat),.int .u64 (b:Nat),.int .u64 (c:Nat),.mag V,.int .i64 (nl V),.int .i64 (i:Nat)]
include h0 in
theorem ZW {x:Nat} (hlu:lu<2^41) (hj:j+nl V<lu) (hx:x<4294967296) (hu:∀i,i<lu->u i<2^32)
  (hv:bA zZ s'=some (AZ lq s lu V j x 0 0 0,dK lq lu q u))
  (fin:∀b c u' s',b<=1->c<4294967296->(∀i,i<lu->u' i<2^32)->(∀i,i<j\/j+nl V<=i->u' i=u i)->
   val (nl V) (fun i=>u' (j+i))+x*V=val (nl V) (fun i=>u (j+i))+(c+b)*2^(32*nl V)->bA zZ s'=some (AZ lq s lu V j x b c (nl V),dK lq lu q u')->Q .normal s'):
  au P c f168.ntmps (part uI [1,0,1]) s' Q:=by
 refine au.jh (i:=5) (y:=part uI [1,0,1,0,0]) ah zZ 9 h0 (fun p:Nat×Nat×Nat×(Nat->Nat)=>AZ lq s lu V j x p.2.1 p.2.2.1 p.1) (fun p=>dK lq lu q p.2.2.2) (fun _=>rfl) (fun _=>jJ)
  (fun p=>p.1<=nl V/\p.2.1<=1/\p.2.2.1<4294967296/\(∀i,i<lu->p.2.2.2 i<2^32)/\(∀i,i<j\/j+p.1<=i->p.2.2.2 i=u i)/\
   val p.1 (fun i=>p.2.2.2 (j+i))+x*val p.1 (aD V)=val p.1 (fun i=>u (j+i))+(p.2.2.1+p.2.1)*2^(32*p.1)) (fun p=>nl V-p.1) (0,0,0,u) hv
  ⟨by simp,by simp,by simp,hu,fun i _=>rfl,by simp[val]⟩ ?_
 rintro⟨i,b,cc,u'⟩ ⟨hi,hb,hc,hu',hout,hval⟩
 simp only at hi hb hc hu' hout hval
 refine au.bL hT j0 hm 60 zZ div_mul ah ?_
 simp only[af.all,az,bD,bI,beq_iff_eq]
 refine⟨fun h1=>?_,fun h1 s' hv=>?_⟩
 ·have hin:i<nl V:=aa
  have w1:i64.wrap ((i:Int)+(j:Int))=((j+i:Nat):Int):=fR aa aa
  rw[w1]
  simp only[bG,Nat.add_zero]
  obtain⟨m1,m2,m3⟩:=afC hc hx (eO (N:=V) (i:=i))
  have hui:=hu' (j+i) aa
  obtain⟨g1,g2⟩:=Lp (u:=u' (j+i)) (c:=(cc+x*aD V i)%4294967296) hui aa hb
  rw[m1,UL m2,g1,g2,mO]
  refine⟨aa,aa,aa,aa,aa,fun s' hv=>⟨(i+1,(if(cc+x*aD V i)%4294967296+b<=u' (j+i)then 0 else 1),(cc+x*aD V i)/4294967296,cQ u' (j+i) ((u' (j+i)+4294967296-(cc+x*aD V i)%4294967296-b)%4294967296)),eP hv ?_ ?_,⟨by simp only;omega,by simp only;split<;>omega,m3,jn aa hu',fun k hk=>?_,?_⟩,by simp only;omega⟩⟩
  ·rw[fR (a:=(i:Int)+1) (n:=i+1) aa aa]
   simp only[AZ,fS,List.cons_append,List.nil_append,List.cons.injEq,AV.int.injEq,and_true,true_and]
   omega
  ·simp only[dK]
   congr 4
   funext k
   exact iQ rfl k
  ·simp only at hk ⊢
   rw[gG aa]
   exact hout k aa
  ·simp only
   rw[val,val,val,kP,val_congr (y:=fun i=>u' (j+i)) fun k hk=>gG aa,je,<-hout (j+i) aa]
   exact Rw aa hb hui rfl hval
 ·have hin:i=nl V:=aa
  subst hin
  rw[ic]at hval
  exact gv (fin b cc u' s' hb hc hu' hout hval hv)
abbrev xo:List Nat:=ej++[15,18,214,215,216]
abbrev CA (lq s lu V:Nat) (j:Int) (x c i:Nat):List AV:=fS lq s lu V j++[.int .u64 (x:Nat),.int .u64 (c:Nat),.mag V,.int .i64 (nl V),.int .i64 (i:Nat)]
include h0 in
theorem ag0 {x:Nat} (hlu:lu<2^41) (hj:j+nl V<lu) (hu:∀i,i<lu->u i<2^32)
  (hv:bA xo s'=some (CA lq s lu V j x 0 0,dK lq lu q u))
  (fin:∀c u' s',c<=1->(∀i,i<lu->u' i<2^32)->(∀i,i<j\/j+nl V<=i->u' i=u i)->
   val (nl V) (fun i=>u' (j+i))+c*2^(32*nl V)=val (nl V) (fun i=>u (j+i))+V->bA xo s'=some (CA lq s lu V j x c (nl V),dK lq lu q u')->Q .normal s'):
  au P c f168.ntmps (part tf [1,1,0,1]) s' Q:=by
 refine au.jh (i:=7) (y:=part tf [1,1,0,1,0,0]) ah xo 9 h0 (fun p:Nat×Nat×(Nat->Nat)=>CA lq s lu V j x p.2.1 p.1) (fun p=>dK lq lu q p.2.2) (fun _=>rfl) (fun _=>jJ)
  (fun p=>p.1<=nl V/\p.2.1<=1/\(∀i,i<lu->p.2.2 i<2^32)/\(∀i,i<j\/j+p.1<=i->p.2.2 i=u i)/\
   val p.1 (fun i=>p.2.2 (j+i))+p.2.1*2^(32*p.1)=val p.1 (fun i=>u (j+i))+val p.1 (aD V)) (fun p=>nl V-p.1) (0,0,u) hv
  ⟨by simp,by simp,hu,fun i _=>rfl,by simp[val]⟩ ?_
 rintro⟨i,cc,u'⟩ ⟨hi,hc,hu',hout,hval⟩
 simp only at hi hc hu' hout hval
 refine au.bL hT j0 hm 60 xo div_add ah ?_
 simp only[af.all,az,bD,bI,beq_iff_eq]
 refine⟨fun h1=>?_,fun h1 s' hv=>?_⟩
 ·have hin:i<nl V:=aa
  have w1:i64.wrap ((i:Int)+(j:Int))=((j+i:Nat):Int):=fR aa aa
  rw[w1]
  simp only[bG,Nat.add_zero]
  have hui:=hu' (j+i) aa
  have hvi:=eO (N:=V) (i:=i)
  have m1:u64.wrap ((cc:Int)+u64.wrap (u64.wrap (u' (j+i):Int)+u64.wrap (aD V i:Int)))=((cc+u' (j+i)+aD V i:Nat):Int):=by
   rw[cJ (x:=(u' (j+i):Int)) aa aa,cJ (x:=(aD V i:Int)) aa aa,cJ (x:=(u' (j+i):Int)+_) aa aa,cJ aa aa]
   omega
  rw[m1,mO]
  refine⟨aa,aa,aa,aa,fun s' hv=>⟨(i+1,(cc+u' (j+i)+aD V i)/4294967296,cQ u' (j+i) ((cc+u' (j+i)+aD V i)%4294967296)),eP hv ?_ ?_,⟨by simp only;omega,by simp only;omega,jn aa hu',fun k hk=>?_,?_⟩,by simp only;omega⟩⟩
  ·rw[fR (a:=(i:Int)+1) (n:=i+1) aa aa]
   simp only[CA,fS,List.cons_append,List.nil_append,List.cons.injEq,AV.int.injEq,and_true,true_and]
   omega
  ·simp only[dK]
   congr 4
   funext k
   exact iQ (by rw[kz]) k
  ·simp only at hk ⊢
   rw[gG aa]
   exact hout k aa
  ·simp only
   rw[val,val,val,kP,val_congr (y:=fun i=>u' (j+i)) fun k hk=>gG aa,je,<-hout (j+i) aa]
   have:=DZ (B:=2^(32*i)) (c:=cc) (z:=u' (j+i)) (y:=aD V i) rfl hval
   omega
 ·have hin:i=nl V:=aa
  subst hin
  rw[ic]at hval
  exact gv (fin cc u' s' hc hu' hout hval hv)
end pieces
end Go.Am.B
