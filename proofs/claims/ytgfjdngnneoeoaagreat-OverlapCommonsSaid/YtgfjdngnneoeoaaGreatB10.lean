/- natural.Div: its loops. -/
import Derived.Test.YtgfjdngnneoeoaaGreatB9
set_option linter.unusedVariables false
namespace Go.Am.B
open Go Go.Am.N AV Proofs.Tryz IntKind
theorem ju:aZ P GD:=aE C9 (aE BO (aE agB (aE aae (aE Xv gU))))
theorem vR:aZ P GT:=aE acd bA
section pieces
variable {c:Ctx} (h0:∀k x,c.k0 k=some x->k<9) {Q:ak->aL->Prop} {lq s lu V j:Nat} {q u:Nat->Nat} {s':aL}
theorem je {lq lu:Nat} {q u:Nat->Nat}:iE 9 (cU lq lu q u):=⟨⟨aa,fun _ _=>rfl⟩,⟨aa,fun _ _=>rfl⟩,trivial⟩
theorem eM {a:Int} {n:Nat} (h:a=n) (hn:n<2^63):i64.wrap a=(n:Int):=by rw[h,wrap_i64 aa aa]
theorem iD {a b v:Bool} (h:(bif false then a else b)=v):b=v:=h
theorem KT {a b:Nat} (h:(a:Int)>(b:Int)):b<a:=aa
theorem T3 {a b:Nat} (h:¬(a:Int)>(b:Int)):a<=b:=aa
abbrev oq:List Nat:=dr++[15,16]
abbrev ve (lq s lu V:Nat) (j x:Int) (rest:Nat):List AV:=fc lq s lu V j++[.int .u64 x,.int .u64 (rest:Nat)]
include h0 in
theorem TY {top qt v1 v2 u3 x0 r0:Nat} (hlu:lu<2^41) (hn:2<=nl V) (hj:j+nl V<lu) (e1:aB V (nl V-1)=v1) (e2:aB V (nl V-2)=v2) (e3:u (j+nl V-2)=u3) (hu3:u3<4294967296)
  (hx0:x0*v1+r0=top) (hr0:r0<4294967296) (hq0:qt<=x0) (hx33:x0<2^34)
  (hbig:qt<4294967296) (hstep:∀x rest,x*v1+rest=top->rest*4294967296+u3<x*v2->qt<x) (hsmall:∀x rest,x*v1+rest=top->4294967296<=rest->x<4294967296)
  (hv:bC oq s'=some (ve lq s lu V j x0 r0,cU lq lu q u))
  (fin:∀x rest s',x<4294967296->x*v1+rest=top->qt<=x->x*v2<=rest*4294967296+u3->bC oq s'=some (ve lq s lu V j x rest,cU lq lu q u)->Q .normal s'):
  ay P c f133.ntmps (part pq [1,1,0]) s' Q:=by
 refine ay.ij (i:=3) (y:=part pq [1,1,0,0,0]) ah oq 9 h0 (fun p:Nat×Nat=>ve lq s lu V j p.1 p.2) (fun _=>cU lq lu q u) (fun _=>rfl) (fun _=>je)
  (fun p=>p.1*v1+p.2=top/\p.2<4294967296/\qt<=p.1/\p.1<2^34) (fun p=>p.1) (x0,r0) hv ⟨hx0,hr0,hq0,hx33⟩ ?_
 rintro⟨x,rest⟩ ⟨ht,hr,hq,hx⟩
 simp only at ht hr hq hx
 show ay P c f133.ntmps _ ⟨aH oq (ve lq s lu V j (x:Int) rest),cU lq lu q u,9⟩ _
 obtain⟨X,hX⟩:∃X:Int,X=(x:Int):=⟨_,rfl⟩
 rw[<-hX]
 refine ay.bE hT ju hm 60 oq (aaz (x:=X)) ah ?_
 rw[hX]
 have w1:i64.wrap ((nl V:Int)-1)=((nl V-1:Nat):Int):=eM aa aa
 have w2:i64.wrap ((nl V:Int)-2)=((nl V-2:Nat):Int):=eM aa aa
 have w3:i64.wrap ((j:Int)+(nl V:Int))=((j+nl V:Nat):Int):=eM aa aa
 have w4:i64.wrap (((j+nl V:Nat):Int)-2)=((j+nl V-2:Nat):Int):=eM aa aa
 have hv1:aB V (nl V-1)<4294967296:=dO
 have hv2:aB V (nl V-2)<4294967296:=dO
 have w5:u64.wrap ((rest:Int)+u64.wrap (aB V (nl V-1):Int))=((rest+v1:Nat):Int):=by
  rw[ck (x:=(aB V (nl V-1):Int)) aa aa,ck aa aa,e1];omega
 rw[w1,w2,w3,w4]
 simp only[ag.all,au,bw,Nat.add_zero,w5,e3]
 rw[sq hr hu3]
 have next:∀{s':aL},qt<x->rest+v1<4294967296->bC oq s'=some ([.own 8 1 0 lq,.int .i64 s,.own 7 1 0 lu,.mag V,.int .i64 (nl V),.int .i64 j,.int .u64 (u64.wrap ((x:Int)-1)),.int .u64 ((rest+v1:Nat):Int)],cU lq lu q u)->
   ∃k:Nat×Nat,bC oq s'=some (ve lq s lu V j k.1 k.2,cU lq lu q u)/\(k.1*v1+k.2=top/\k.2<4294967296/\qt<=k.1/\k.1<2^34)/\k.1<x:=by
  intro s' h1 h2 hv
  refine⟨(x-1,rest+v1),?_,⟨?_,h2,by simp only;omega,by simp only;omega⟩,by simp only;omega⟩
  ·refine dS hv ?_ rfl
   rw[ck (x:=(x:Int)-1) aa aa,show(x:Int)-1=((x-1:Nat):Int) by omega]
   rfl
  ·simp only
   obtain⟨y,rfl⟩:∃y,x=y+1:=⟨x-1,aa⟩
   rw[Nat.add_mul]at ht
   simp only[Nat.add_sub_cancel];omega
 have last:∀{s':aL},qt<x->4294967296<=rest+v1->bC oq s'=some ([.own 8 1 0 lq,.int .i64 s,.own 7 1 0 lu,.mag V,.int .i64 (nl V),.int .i64 j,.int .u64 (u64.wrap ((x:Int)-1)),.int .u64 ((rest+v1:Nat):Int)],cU lq lu q u)->Q .normal s':=by
  intro s' h1 h2 hv
  have ht':(x-1)*v1+(rest+v1)=top:=by
   obtain⟨y,rfl⟩:∃y,x=y+1:=⟨x-1,aa⟩
   rw[Nat.add_mul]at ht
   simp only[Nat.add_sub_cancel];omega
  have hsm:=hsmall _ _ ht' h2
  refine fin (x-1) (rest+v1) s' hsm ht' aa ?_ (dS hv ?_ rfl)
  ·have a1:(x-1)*v2<=4294967295*4294967295:=Nat.mul_le_mul aa aa
   omega
  ·rw[ck (x:=(x:Int)-1) aa aa,show(x:Int)-1=((x-1:Nat):Int) by omega]
   rfl
 refine⟨fun hb=>⟨hb,fun _=>⟨aa,fun h1 s' hv=>?_,fun h1 s' hv=>?_⟩,fun h=>by simp at h⟩,fun hb=>⟨⟨hb,aa,aa,aa,aa⟩,?_⟩⟩
 ·simp only[bz]at hb h1
  exact fG (last aa aa hv)
 ·simp only[bz,bF]at hb h1
  exact next aa aa hv
 ·simp only[bF]at hb
  have hxB:x<4294967296:=aa
  have m1:x*aB V (nl V-2)<=(2^32-1)*(2^32-1):=Nat.mul_le_mul aa aa
  have w6:u64.wrap ((x:Int)*u64.wrap (aB V (nl V-2):Int))=((x*v2:Nat):Int):=by
   rw[ck (x:=(aB V (nl V-2):Int)) aa aa,e2]
   have:(x:Int)*(v2:Int)=((x*v2:Nat):Int):=by simp
   rw[this,ck aa (by rw[e2]at m1;omega)]
  rw[w6]
  refine⟨fun h1=>⟨aa,fun h2 s' hv=>?_,fun h2 s' hv=>?_⟩,fun h1 s' hv=>?_⟩
  ·simp only[bz]at h2
   exact fG (last (hstep x rest ht (KT (of_decide_eq_true (iD h1)))) (by clear h1 w6 m1;omega) hv)
  ·simp only[bF]at h2
   exact next (hstep x rest ht (KT (of_decide_eq_true (iD h1)))) (by clear h1 w6 m1;omega) hv
  ·skip
   exact fG (fin x rest s' hxB ht hq (T3 (of_decide_eq_false (iD h1))) hv)
abbrev uu:List Nat:=dr++[15,17,18,154,155,156]
abbrev xo (lq s lu V:Nat) (j:Int) (x b c i:Nat):List AV:=fc lq s lu V j++[.int .u64 (x:Nat),.int .u64 (b:Nat),.int .u64 (c:Nat),.mag V,.int .i64 (nl V),.int .i64 (i:Nat)]
include h0 in
theorem Uk {x:Nat} (hlu:lu<2^41) (hj:j+nl V<lu) (hx:x<4294967296) (hu:∀i,i<lu->u i<2^32)
  (hv:bC uu s'=some (xo lq s lu V j x 0 0 0,cU lq lu q u))
  (fin:∀b c u' s',b<=1->c<4294967296->(∀i,i<lu->u' i<2^32)->(∀i,i<j\/j+nl V<=i->u' i=u i)->
   val (nl V) (fun i=>u' (j+i))+x*V=val (nl V) (fun i=>u (j+i))+(c+b)*2^(32*nl V)->bC uu s'=some (xo lq s lu V j x b c (nl V),cU lq lu q u')->Q .normal s'):
  ay P c f133.ntmps (part tM [1,0,1]) s' Q:=by
 refine ay.ij (i:=5) (y:=part tM [1,0,1,0,0]) ah uu 9 h0 (fun p:Nat×Nat×Nat×(Nat->Nat)=>xo lq s lu V j x p.2.1 p.2.2.1 p.1) (fun p=>cU lq lu q p.2.2.2) (fun _=>rfl) (fun _=>je)
  (fun p=>p.1<=nl V/\p.2.1<=1/\p.2.2.1<4294967296/\(∀i,i<lu->p.2.2.2 i<2^32)/\(∀i,i<j\/j+p.1<=i->p.2.2.2 i=u i)/\
   val p.1 (fun i=>p.2.2.2 (j+i))+x*val p.1 (aB V)=val p.1 (fun i=>u (j+i))+(p.2.2.1+p.2.1)*2^(32*p.1)) (fun p=>nl V-p.1) (0,0,0,u) hv
  ⟨by simp,by simp,by simp,hu,fun i _=>rfl,by simp[val]⟩ ?_
 rintro⟨i,b,cc,u'⟩ ⟨hi,hb,hc,hu',hout,hval⟩
 simp only at hi hb hc hu' hout hval
 refine ay.bE hT ju hm 60 uu div_mul ah ?_
 simp only[ag.all,au,bz,bF,beq_iff_eq]
 refine⟨fun h1=>?_,fun h1 s' hv=>?_⟩
 ·have hin:i<nl V:=aa
  have w1:i64.wrap ((i:Int)+(j:Int))=((j+i:Nat):Int):=eM aa aa
  rw[w1]
  simp only[bw,Nat.add_zero]
  obtain⟨m1,m2,m3⟩:=agO hc hx (dO (N:=V) (i:=i))
  have hui:=hu' (j+i) aa
  obtain⟨g1,g2⟩:=KH (u:=u' (j+i)) (c:=(cc+x*aB V i)%4294967296) hui aa hb
  rw[m1,PA m2,g1,g2,lN]
  refine⟨aa,aa,aa,aa,aa,fun s' hv=>⟨(i+1,(if(cc+x*aB V i)%4294967296+b<=u' (j+i)then 0 else 1),(cc+x*aB V i)/4294967296,cA u' (j+i) ((u' (j+i)+4294967296-(cc+x*aB V i)%4294967296-b)%4294967296)),dS hv ?_ ?_,⟨by simp only;omega,by simp only;split<;>omega,m3,iG aa hu',fun k hk=>?_,?_⟩,by simp only;omega⟩⟩
  ·rw[eM (a:=(i:Int)+1) (n:=i+1) aa aa]
   simp only[xo,fc,List.cons_append,List.nil_append,List.cons.injEq,AV.int.injEq,and_true,true_and]
   omega
  ·simp only[cU]
   congr 4
   funext k
   exact gZ rfl k
  ·simp only at hk ⊢
   rw[fR aa]
   exact hout k aa
  ·simp only
   rw[val,val,val,jP,val_congr (y:=fun i=>u' (j+i)) fun k hk=>fR aa,iw,<-hout (j+i) aa]
   exact aa4 aa hb hui rfl hval
 ·have hin:i=nl V:=aa
  subst hin
  rw[gp]at hval
  exact fG (fin b cc u' s' hb hc hu' hout hval hv)
abbrev wz:List Nat:=dr++[15,18,214,215,216]
abbrev zB (lq s lu V:Nat) (j:Int) (x c i:Nat):List AV:=fc lq s lu V j++[.int .u64 (x:Nat),.int .u64 (c:Nat),.mag V,.int .i64 (nl V),.int .i64 (i:Nat)]
include h0 in
theorem acf {x:Nat} (hlu:lu<2^41) (hj:j+nl V<lu) (hu:∀i,i<lu->u i<2^32)
  (hv:bC wz s'=some (zB lq s lu V j x 0 0,cU lq lu q u))
  (fin:∀c u' s',c<=1->(∀i,i<lu->u' i<2^32)->(∀i,i<j\/j+nl V<=i->u' i=u i)->
   val (nl V) (fun i=>u' (j+i))+c*2^(32*nl V)=val (nl V) (fun i=>u (j+i))+V->bC wz s'=some (zB lq s lu V j x c (nl V),cU lq lu q u')->Q .normal s'):
  ay P c f133.ntmps (part qe [1,1,0,1]) s' Q:=by
 refine ay.ij (i:=7) (y:=part qe [1,1,0,1,0,0]) ah wz 9 h0 (fun p:Nat×Nat×(Nat->Nat)=>zB lq s lu V j x p.2.1 p.1) (fun p=>cU lq lu q p.2.2) (fun _=>rfl) (fun _=>je)
  (fun p=>p.1<=nl V/\p.2.1<=1/\(∀i,i<lu->p.2.2 i<2^32)/\(∀i,i<j\/j+p.1<=i->p.2.2 i=u i)/\
   val p.1 (fun i=>p.2.2 (j+i))+p.2.1*2^(32*p.1)=val p.1 (fun i=>u (j+i))+val p.1 (aB V)) (fun p=>nl V-p.1) (0,0,u) hv
  ⟨by simp,by simp,hu,fun i _=>rfl,by simp[val]⟩ ?_
 rintro⟨i,cc,u'⟩ ⟨hi,hc,hu',hout,hval⟩
 simp only at hi hc hu' hout hval
 refine ay.bE hT ju hm 60 wz div_add ah ?_
 simp only[ag.all,au,bz,bF,beq_iff_eq]
 refine⟨fun h1=>?_,fun h1 s' hv=>?_⟩
 ·have hin:i<nl V:=aa
  have w1:i64.wrap ((i:Int)+(j:Int))=((j+i:Nat):Int):=eM aa aa
  rw[w1]
  simp only[bw,Nat.add_zero]
  have hui:=hu' (j+i) aa
  have hvi:=dO (N:=V) (i:=i)
  have m1:u64.wrap ((cc:Int)+u64.wrap (u64.wrap (u' (j+i):Int)+u64.wrap (aB V i:Int)))=((cc+u' (j+i)+aB V i:Nat):Int):=by
   rw[ck (x:=(u' (j+i):Int)) aa aa,ck (x:=(aB V i:Int)) aa aa,ck (x:=(u' (j+i):Int)+_) aa aa,ck aa aa]
   omega
  rw[m1,lN]
  refine⟨aa,aa,aa,aa,fun s' hv=>⟨(i+1,(cc+u' (j+i)+aB V i)/4294967296,cA u' (j+i) ((cc+u' (j+i)+aB V i)%4294967296)),dS hv ?_ ?_,⟨by simp only;omega,by simp only;omega,iG aa hu',fun k hk=>?_,?_⟩,by simp only;omega⟩⟩
  ·rw[eM (a:=(i:Int)+1) (n:=i+1) aa aa]
   simp only[zB,fc,List.cons_append,List.nil_append,List.cons.injEq,AV.int.injEq,and_true,true_and]
   omega
  ·simp only[cU]
   congr 4
   funext k
   exact gZ (by rw[jC]) k
  ·simp only at hk ⊢
   rw[fR aa]
   exact hout k aa
  ·simp only
   rw[val,val,val,jP,val_congr (y:=fun i=>u' (j+i)) fun k hk=>fR aa,iw,<-hout (j+i) aa]
   have:=DH (B:=2^(32*i)) (c:=cc) (z:=u' (j+i)) (y:=aB V i) rfl hval
   omega
 ·have hin:i=nl V:=aa
  subst hin
  rw[gp]at hval
  exact fG (fin cc u' s' hc hu' hout hval hv)
end pieces
end Go.Am.B
