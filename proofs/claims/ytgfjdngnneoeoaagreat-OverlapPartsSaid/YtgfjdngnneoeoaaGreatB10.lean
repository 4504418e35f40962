/- natural.Div: its loops. -/
import Derived.Test.YtgfjdngnneoeoaaGreatB9
set_option linter.unusedVariables false
namespace Go.Am.B
open Go Go.Am.N AV Proofs.Tryz IntKind
theorem jJ:bg P GD:=aE DT (aE Ce (aE ag6 (aE afj (aE acG gX))))
theorem vi:bg P GT:=aE Xo bD
section pieces
variable {c:Ctx} (h0:∀k x,c.k0 k=some x->k<9) {Q:aq->aK->Prop} {lq s lu V j:Nat} {q u:Nat->Nat} {s':aK}
theorem jk {lq lu:Nat} {q u:Nat->Nat}:iP 9 (cZ lq lu q u):=⟨⟨aa,fun _ _=>rfl⟩,⟨aa,fun _ _=>rfl⟩,trivial⟩
theorem fe {a:Int} {n:Nat} (h:a=n) (hn:n<2^63):i64.wrap a=(n:Int):=by rw[h,wrap_i64 aa aa]
theorem iM {a b v:Bool} (h:(bif false then a else b)=v):b=v:=h
theorem LB {a b:Nat} (h:(a:Int)>(b:Int)):b<a:=aa
theorem aic {a b:Nat} (h:¬(a:Int)>(b:Int)):a<=b:=aa
abbrev oo:List Nat:=dD++[15,16]
abbrev vg (lq s lu V:Nat) (j x:Int) (rest:Nat):List AV:=fq lq s lu V j++[.int .u64 x,.int .u64 (rest:Nat)]
include h0 in
theorem ZP {top qt v1 v2 u3 x0 r0:Nat} (hlu:lu<2^41) (hn:2<=nl V) (hj:j+nl V<lu) (e1:aB V (nl V-1)=v1) (e2:aB V (nl V-2)=v2) (e3:u (j+nl V-2)=u3) (hu3:u3<4294967296)
  (hx0:x0*v1+r0=top) (hr0:r0<4294967296) (hq0:qt<=x0) (hx33:x0<2^34)
  (hbig:qt<4294967296) (hstep:∀x rest,x*v1+rest=top->rest*4294967296+u3<x*v2->qt<x) (hsmall:∀x rest,x*v1+rest=top->4294967296<=rest->x<4294967296)
  (hv:bB oo s'=some (vg lq s lu V j x0 r0,cZ lq lu q u))
  (fin:∀x rest s',x<4294967296->x*v1+rest=top->qt<=x->x*v2<=rest*4294967296+u3->bB oo s'=some (vg lq s lu V j x rest,cZ lq lu q u)->Q .normal s'):
  ay P c f133.ntmps (part oZ [1,1,0]) s' Q:=by
 refine ay.iF (i:=3) (y:=part oZ [1,1,0,0,0]) ah oo 9 h0 (fun p:Nat×Nat=>vg lq s lu V j p.1 p.2) (fun _=>cZ lq lu q u) (fun _=>rfl) (fun _=>jk)
  (fun p=>p.1*v1+p.2=top/\p.2<4294967296/\qt<=p.1/\p.1<2^34) (fun p=>p.1) (x0,r0) hv ⟨hx0,hr0,hq0,hx33⟩ ?_
 rintro⟨x,rest⟩ ⟨ht,hr,hq,hx⟩
 simp only at ht hr hq hx
 show ay P c f133.ntmps _ ⟨aG oo (vg lq s lu V j (x:Int) rest),cZ lq lu q u,9⟩ _
 obtain⟨X,hX⟩:∃X:Int,X=(x:Int):=⟨_,rfl⟩
 rw[<-hX]
 refine ay.bH hT jJ hm 60 oo (Pa (x:=X)) ah ?_
 rw[hX]
 have w1:i64.wrap ((nl V:Int)-1)=((nl V-1:Nat):Int):=fe aa aa
 have w2:i64.wrap ((nl V:Int)-2)=((nl V-2:Nat):Int):=fe aa aa
 have w3:i64.wrap ((j:Int)+(nl V:Int))=((j+nl V:Nat):Int):=fe aa aa
 have w4:i64.wrap (((j+nl V:Nat):Int)-2)=((j+nl V-2:Nat):Int):=fe aa aa
 have hv1:aB V (nl V-1)<4294967296:=dS
 have hv2:aB V (nl V-2)<4294967296:=dS
 have w5:u64.wrap ((rest:Int)+u64.wrap (aB V (nl V-1):Int))=((rest+v1:Nat):Int):=by
  rw[cw (x:=(aB V (nl V-1):Int)) aa aa,cw aa aa,e1];omega
 rw[w1,w2,w3,w4]
 simp only[ag.all,au,br,Nat.add_zero,w5,e3]
 rw[sL hr hu3]
 have next:∀{s':aK},qt<x->rest+v1<4294967296->bB oo s'=some ([.own 8 1 0 lq,.int .i64 s,.own 7 1 0 lu,.mag V,.int .i64 (nl V),.int .i64 j,.int .u64 (u64.wrap ((x:Int)-1)),.int .u64 ((rest+v1:Nat):Int)],cZ lq lu q u)->
   ∃k:Nat×Nat,bB oo s'=some (vg lq s lu V j k.1 k.2,cZ lq lu q u)/\(k.1*v1+k.2=top/\k.2<4294967296/\qt<=k.1/\k.1<2^34)/\k.1<x:=by
  intro s' h1 h2 hv
  refine⟨(x-1,rest+v1),?_,⟨?_,h2,by simp only;omega,by simp only;omega⟩,by simp only;omega⟩
  ·refine ee hv ?_ rfl
   rw[cw (x:=(x:Int)-1) aa aa,show(x:Int)-1=((x-1:Nat):Int) by omega]
   rfl
  ·simp only
   obtain⟨y,rfl⟩:∃y,x=y+1:=⟨x-1,aa⟩
   rw[Nat.add_mul]at ht
   simp only[Nat.add_sub_cancel];omega
 have last:∀{s':aK},qt<x->4294967296<=rest+v1->bB oo s'=some ([.own 8 1 0 lq,.int .i64 s,.own 7 1 0 lu,.mag V,.int .i64 (nl V),.int .i64 j,.int .u64 (u64.wrap ((x:Int)-1)),.int .u64 ((rest+v1:Nat):Int)],cZ lq lu q u)->Q .normal s':=by
  intro s' h1 h2 hv
  have ht':(x-1)*v1+(rest+v1)=top:=by
   obtain⟨y,rfl⟩:∃y,x=y+1:=⟨x-1,aa⟩
   rw[Nat.add_mul]at ht
   simp only[Nat.add_sub_cancel];omega
  have hsm:=hsmall _ _ ht' h2
  refine fin (x-1) (rest+v1) s' hsm ht' aa ?_ (ee hv ?_ rfl)
  ·have a1:(x-1)*v2<=4294967295*4294967295:=Nat.mul_le_mul aa aa
   omega
  ·rw[cw (x:=(x:Int)-1) aa aa,show(x:Int)-1=((x-1:Nat):Int) by omega]
   rfl
 refine⟨fun hb=>⟨hb,fun _=>⟨aa,fun h1 s' hv=>?_,fun h1 s' hv=>?_⟩,fun h=>by simp at h⟩,fun hb=>⟨⟨hb,aa,aa,aa,aa⟩,?_⟩⟩
 ·simp only[bz]at hb h1
  exact fK (last aa aa hv)
 ·simp only[bz,bG]at hb h1
  exact next aa aa hv
 ·simp only[bG]at hb
  have hxB:x<4294967296:=aa
  have m1:x*aB V (nl V-2)<=(2^32-1)*(2^32-1):=Nat.mul_le_mul aa aa
  have w6:u64.wrap ((x:Int)*u64.wrap (aB V (nl V-2):Int))=((x*v2:Nat):Int):=by
   rw[cw (x:=(aB V (nl V-2):Int)) aa aa,e2]
   have:(x:Int)*(v2:Int)=((x*v2:Nat):Int):=by simp
   rw[this,cw aa (by rw[e2]at m1;omega)]
  rw[w6]
  refine⟨fun h1=>⟨aa,fun h2 s' hv=>?_,fun h2 s' hv=>?_⟩,fun h1 s' hv=>?_⟩
  ·simp only[bz]at h2
   exact fK (last (hstep x rest ht (LB (of_decide_eq_true (iM h1)))) (by clear h1 w6 m1;omega) hv)
  ·simp only[bG]at h2
   exact next (hstep x rest ht (LB (of_decide_eq_true (iM h1)))) (by clear h1 w6 m1;omega) hv
  ·skip
   exact fK (fin x rest s' hxB ht hq (aic (of_decide_eq_false (iM h1))) hv)
abbrev vP:List Nat:=dD++[15,17,18,154,155,156]
abbrev zu (lq s lu V:Nat) (j:Int) (x b c i:Nat):List AV:=fq lq s lu V j++[.int .u64 (x:Nat),.int .u64 (b:Nat),.int .u64 (c:Nat),.mag V,.int .i64 (nl V),.int .i64 (i:Nat)]
include h0 in
theorem XQ {x:Nat} (hlu:lu<2^41) (hj:j+nl V<lu) (hx:x<4294967296) (hu:∀i,i<lu->u i<2^32)
  (hv:bB vP s'=some (zu lq s lu V j x 0 0 0,cZ lq lu q u))
  (fin:∀b c u' s',b<=1->c<4294967296->(∀i,i<lu->u' i<2^32)->(∀i,i<j\/j+nl V<=i->u' i=u i)->
   val (nl V) (fun i=>u' (j+i))+x*V=val (nl V) (fun i=>u (j+i))+(c+b)*2^(32*nl V)->bB vP s'=some (zu lq s lu V j x b c (nl V),cZ lq lu q u')->Q .normal s'):
  ay P c f133.ntmps (part tA [1,0,1]) s' Q:=by
 refine ay.iF (i:=5) (y:=part tA [1,0,1,0,0]) ah vP 9 h0 (fun p:Nat×Nat×Nat×(Nat->Nat)=>zu lq s lu V j x p.2.1 p.2.2.1 p.1) (fun p=>cZ lq lu q p.2.2.2) (fun _=>rfl) (fun _=>jk)
  (fun p=>p.1<=nl V/\p.2.1<=1/\p.2.2.1<4294967296/\(∀i,i<lu->p.2.2.2 i<2^32)/\(∀i,i<j\/j+p.1<=i->p.2.2.2 i=u i)/\
   val p.1 (fun i=>p.2.2.2 (j+i))+x*val p.1 (aB V)=val p.1 (fun i=>u (j+i))+(p.2.2.1+p.2.1)*2^(32*p.1)) (fun p=>nl V-p.1) (0,0,0,u) hv
  ⟨by simp,by simp,by simp,hu,fun i _=>rfl,by simp[val]⟩ ?_
 rintro⟨i,b,cc,u'⟩ ⟨hi,hb,hc,hu',hout,hval⟩
 simp only at hi hb hc hu' hout hval
 refine ay.bH hT jJ hm 60 vP div_mul ah ?_
 simp only[ag.all,au,bz,bG,beq_iff_eq]
 refine⟨fun h1=>?_,fun h1 s' hv=>?_⟩
 ·have hin:i<nl V:=aa
  have w1:i64.wrap ((i:Int)+(j:Int))=((j+i:Nat):Int):=fe aa aa
  rw[w1]
  simp only[br,Nat.add_zero]
  obtain⟨m1,m2,m3⟩:=WB hc hx (dS (N:=V) (i:=i))
  have hui:=hu' (j+i) aa
  obtain⟨g1,g2⟩:=Ml (u:=u' (j+i)) (c:=(cc+x*aB V i)%4294967296) hui aa hb
  rw[m1,TM m2,g1,g2,lW]
  refine⟨aa,aa,aa,aa,aa,fun s' hv=>⟨(i+1,(if(cc+x*aB V i)%4294967296+b<=u' (j+i)then 0 else 1),(cc+x*aB V i)/4294967296,cE u' (j+i) ((u' (j+i)+4294967296-(cc+x*aB V i)%4294967296-b)%4294967296)),ee hv ?_ ?_,⟨by simp only;omega,by simp only;split<;>omega,m3,iS aa hu',fun k hk=>?_,?_⟩,by simp only;omega⟩⟩
  ·rw[fe (a:=(i:Int)+1) (n:=i+1) aa aa]
   simp only[zu,fq,List.cons_append,List.nil_append,List.cons.injEq,AV.int.injEq,and_true,true_and]
   omega
  ·simp only[cZ]
   congr 4
   funext k
   exact hU rfl k
  ·simp only at hk ⊢
   rw[fS aa]
   exact hout k aa
  ·simp only
   rw[val,val,val,kB,val_congr (y:=fun i=>u' (j+i)) fun k hk=>fS aa,iB,<-hout (j+i) aa]
   exact ahb aa hb hui rfl hval
 ·have hin:i=nl V:=aa
  subst hin
  rw[gq]at hval
  exact fK (fin b cc u' s' hb hc hu' hout hval hv)
abbrev wW:List Nat:=dD++[15,18,214,215,216]
abbrev zq (lq s lu V:Nat) (j:Int) (x c i:Nat):List AV:=fq lq s lu V j++[.int .u64 (x:Nat),.int .u64 (c:Nat),.mag V,.int .i64 (nl V),.int .i64 (i:Nat)]
include h0 in
theorem Sh {x:Nat} (hlu:lu<2^41) (hj:j+nl V<lu) (hu:∀i,i<lu->u i<2^32)
  (hv:bB wW s'=some (zq lq s lu V j x 0 0,cZ lq lu q u))
  (fin:∀c u' s',c<=1->(∀i,i<lu->u' i<2^32)->(∀i,i<j\/j+nl V<=i->u' i=u i)->
   val (nl V) (fun i=>u' (j+i))+c*2^(32*nl V)=val (nl V) (fun i=>u (j+i))+V->bB wW s'=some (zq lq s lu V j x c (nl V),cZ lq lu q u')->Q .normal s'):
  ay P c f133.ntmps (part rL [1,1,0,1]) s' Q:=by
 refine ay.iF (i:=7) (y:=part rL [1,1,0,1,0,0]) ah wW 9 h0 (fun p:Nat×Nat×(Nat->Nat)=>zq lq s lu V j x p.2.1 p.1) (fun p=>cZ lq lu q p.2.2) (fun _=>rfl) (fun _=>jk)
  (fun p=>p.1<=nl V/\p.2.1<=1/\(∀i,i<lu->p.2.2 i<2^32)/\(∀i,i<j\/j+p.1<=i->p.2.2 i=u i)/\
   val p.1 (fun i=>p.2.2 (j+i))+p.2.1*2^(32*p.1)=val p.1 (fun i=>u (j+i))+val p.1 (aB V)) (fun p=>nl V-p.1) (0,0,u) hv
  ⟨by simp,by simp,hu,fun i _=>rfl,by simp[val]⟩ ?_
 rintro⟨i,cc,u'⟩ ⟨hi,hc,hu',hout,hval⟩
 simp only at hi hc hu' hout hval
 refine ay.bH hT jJ hm 60 wW div_add ah ?_
 simp only[ag.all,au,bz,bG,beq_iff_eq]
 refine⟨fun h1=>?_,fun h1 s' hv=>?_⟩
 ·have hin:i<nl V:=aa
  have w1:i64.wrap ((i:Int)+(j:Int))=((j+i:Nat):Int):=fe aa aa
  rw[w1]
  simp only[br,Nat.add_zero]
  have hui:=hu' (j+i) aa
  have hvi:=dS (N:=V) (i:=i)
  have m1:u64.wrap ((cc:Int)+u64.wrap (u64.wrap (u' (j+i):Int)+u64.wrap (aB V i:Int)))=((cc+u' (j+i)+aB V i:Nat):Int):=by
   rw[cw (x:=(u' (j+i):Int)) aa aa,cw (x:=(aB V i:Int)) aa aa,cw (x:=(u' (j+i):Int)+_) aa aa,cw aa aa]
   omega
  rw[m1,lW]
  refine⟨aa,aa,aa,aa,fun s' hv=>⟨(i+1,(cc+u' (j+i)+aB V i)/4294967296,cE u' (j+i) ((cc+u' (j+i)+aB V i)%4294967296)),ee hv ?_ ?_,⟨by simp only;omega,by simp only;omega,iS aa hu',fun k hk=>?_,?_⟩,by simp only;omega⟩⟩
  ·rw[fe (a:=(i:Int)+1) (n:=i+1) aa aa]
   simp only[zq,fq,List.cons_append,List.nil_append,List.cons.injEq,AV.int.injEq,and_true,true_and]
   omega
  ·simp only[cZ]
   congr 4
   funext k
   exact hU (by rw[jP]) k
  ·simp only at hk ⊢
   rw[fS aa]
   exact hout k aa
  ·simp only
   rw[val,val,val,kB,val_congr (y:=fun i=>u' (j+i)) fun k hk=>fS aa,iB,<-hout (j+i) aa]
   have:=Dl (B:=2^(32*i)) (c:=cc) (z:=u' (j+i)) (y:=aB V i) rfl hval
   omega
 ·have hin:i=nl V:=aa
  subst hin
  rw[gq]at hval
  exact fK (fin cc u' s' hc hu' hout hval hv)
end pieces
end Go.Am.B
