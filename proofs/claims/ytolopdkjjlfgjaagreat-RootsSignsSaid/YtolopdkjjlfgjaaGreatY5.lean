/- natural.Div: its loops. -/
import Derived.Test.YtolopdkjjlfgjaaGreatY4
import Derived.Laws.Externs
import Derived.Test.YtolopdkjjlfgjaaGreatZ2
set_option linter.unusedVariables false
noncomputable section
namespace Go.Am.B
open Go Go.Am.N AV Proofs.Tryz IntKind
theorem kS:bY P GD:=aM Ie (aM IV (aM Vu (aM agu (aM WQ jr))))
theorem z8:bY P GT:=aM Zf cJ
section pieces
variable {c:Ctx} (h0:∀k x,c.k0 k=some x->k<9) {Q:au->aP->Prop} {lq s lu V j:Nat} {q u:Nat->Nat} {s':aP}
theorem kF {lq lu:Nat} {q u:Nat->Nat}:jW 9 (ep lq lu q u):=⟨⟨aa,fun _ _=>rfl⟩,⟨aa,fun _ _=>rfl⟩,trivial⟩
theorem gl {a:Int} {n:Nat} (h:a=n) (hn:n<2^63):i64.wrap a=(n:Int):=by rw[h,wrap_i64 aa aa]
theorem jT {a b v:Bool} (h:(bif false then a else b)=v):b=v:=h
theorem P3 {a b:Nat} (h:(a:Int)>(b:Int)):b<a:=aa
theorem aet {a b:Nat} (h:¬(a:Int)>(b:Int)):a<=b:=aa
abbrev qh:List Nat:=eW++[15,16]
abbrev yF (lq s lu V:Nat) (j x:Int) (rest:Nat):List AV:=gq lq s lu V j++[.int .u64 x,.int .u64 (rest:Nat)]
include h0 in
theorem SH {top qt v1 v2 u3 x0 r0:Nat} (hlu:lu<2^41) (hn:2<=nl V) (hj:j+nl V<lu) (e1:aG V (nl V-1)=v1) (e2:aG V (nl V-2)=v2) (e3:u (j+nl V-2)=u3) (hu3:u3<4294967296)
  (hx0:x0*v1+r0=top) (hr0:r0<4294967296) (hq0:qt<=x0) (hx33:x0<2^34)
  (hbig:qt<4294967296) (hstep:∀x rest,x*v1+rest=top->rest*4294967296+u3<x*v2->qt<x) (hsmall:∀x rest,x*v1+rest=top->4294967296<=rest->x<4294967296)
  (hv:bJ qh s'=some (yF lq s lu V j x0 r0,ep lq lu q u))
  (fin:∀x rest s',x<4294967296->x*v1+rest=top->qt<=x->x*v2<=rest*4294967296+u3->bJ qh s'=some (yF lq s lu V j x rest,ep lq lu q u)->Q .normal s'):
  az P c f168.ntmps (part sx [1,1,0]) s' Q:=by
 refine az.jG (i:=3) (y:=part sx [1,1,0,0,0]) ah qh 9 h0 (fun p:Nat×Nat=>yF lq s lu V j p.1 p.2) (fun _=>ep lq lu q u) (fun _=>rfl) (fun _=>kF)
  (fun p=>p.1*v1+p.2=top/\p.2<4294967296/\qt<=p.1/\p.1<2^34) (fun p=>p.1) (x0,r0) hv ⟨hx0,hr0,hq0,hx33⟩ ?_
 rintro⟨x,rest⟩ ⟨ht,hr,hq,hx⟩
 simp only at ht hr hq hx
 show az P c f168.ntmps _ ⟨aH qh (yF lq s lu V j (x:Int) rest),ep lq lu q u,9⟩ _
 obtain⟨X,hX⟩:∃X:Int,X=(x:Int):=⟨_,rfl⟩
 rw[<-hX]
 refine az.bU hT kS hm 60 qh (Xd (x:=X)) ah ?_
 rw[hX]
 have w1:i64.wrap ((nl V:Int)-1)=((nl V-1:Nat):Int):=gl aa aa
 have w2:i64.wrap ((nl V:Int)-2)=((nl V-2:Nat):Int):=gl aa aa
 have w3:i64.wrap ((j:Int)+(nl V:Int))=((j+nl V:Nat):Int):=gl aa aa
 have w4:i64.wrap (((j+nl V:Nat):Int)-2)=((j+nl V-2:Nat):Int):=gl aa aa
 have hv1:aG V (nl V-1)<4294967296:=fB
 have hv2:aG V (nl V-2)<4294967296:=fB
 have w5:u64.wrap ((rest:Int)+u64.wrap (aG V (nl V-1):Int))=((rest+v1:Nat):Int):=by
  rw[cR (x:=(aG V (nl V-1):Int)) aa aa,cR aa aa,e1];omega
 rw[w1,w2,w3,w4]
 simp only[ag.all,aC,bS,Nat.add_zero,w5,e3]
 rw[xN hr hu3]
 have next:∀{s':aP},qt<x->rest+v1<4294967296->bJ qh s'=some ([.own 8 1 0 lq,.int .i64 s,.own 7 1 0 lu,.mag V,.int .i64 (nl V),.int .i64 j,.int .u64 (u64.wrap ((x:Int)-1)),.int .u64 ((rest+v1:Nat):Int)],ep lq lu q u)->
   ∃k:Nat×Nat,bJ qh s'=some (yF lq s lu V j k.1 k.2,ep lq lu q u)/\(k.1*v1+k.2=top/\k.2<4294967296/\qt<=k.1/\k.1<2^34)/\k.1<x:=by
  intro s' h1 h2 hv
  refine⟨(x-1,rest+v1),?_,⟨?_,h2,by simp only;omega,by simp only;omega⟩,by simp only;omega⟩
  ·refine fC hv ?_ rfl
   rw[cR (x:=(x:Int)-1) aa aa,show(x:Int)-1=((x-1:Nat):Int) by omega]
   rfl
  ·simp only
   obtain⟨y,rfl⟩:∃y,x=y+1:=⟨x-1,aa⟩
   rw[Nat.add_mul]at ht
   simp only[Nat.add_sub_cancel];omega
 have last:∀{s':aP},qt<x->4294967296<=rest+v1->bJ qh s'=some ([.own 8 1 0 lq,.int .i64 s,.own 7 1 0 lu,.mag V,.int .i64 (nl V),.int .i64 j,.int .u64 (u64.wrap ((x:Int)-1)),.int .u64 ((rest+v1:Nat):Int)],ep lq lu q u)->Q .normal s':=by
  intro s' h1 h2 hv
  have ht':(x-1)*v1+(rest+v1)=top:=by
   obtain⟨y,rfl⟩:∃y,x=y+1:=⟨x-1,aa⟩
   rw[Nat.add_mul]at ht
   simp only[Nat.add_sub_cancel];omega
  have hsm:=hsmall _ _ ht' h2
  refine fin (x-1) (rest+v1) s' hsm ht' aa ?_ (fC hv ?_ rfl)
  ·have a1:(x-1)*v2<=4294967295*4294967295:=Nat.mul_le_mul aa aa
   omega
  ·rw[cR (x:=(x:Int)-1) aa aa,show(x:Int)-1=((x-1:Nat):Int) by omega]
   rfl
 refine⟨fun hb=>⟨hb,fun _=>⟨aa,fun h1 s' hv=>?_,fun h1 s' hv=>?_⟩,fun h=>by simp at h⟩,fun hb=>⟨⟨hb,aa,aa,aa,aa⟩,?_⟩⟩
 ·simp only[bI]at hb h1
  exact gR (last aa aa hv)
 ·simp only[bI,bR]at hb h1
  exact next aa aa hv
 ·simp only[bR]at hb
  have hxB:x<4294967296:=aa
  have m1:x*aG V (nl V-2)<=(2^32-1)*(2^32-1):=Nat.mul_le_mul aa aa
  have w6:u64.wrap ((x:Int)*u64.wrap (aG V (nl V-2):Int))=((x*v2:Nat):Int):=by
   rw[cR (x:=(aG V (nl V-2):Int)) aa aa,e2]
   have:(x:Int)*(v2:Int)=((x*v2:Nat):Int):=by simp
   rw[this,cR aa (by rw[e2]at m1;omega)]
  rw[w6]
  refine⟨fun h1=>⟨aa,fun h2 s' hv=>?_,fun h2 s' hv=>?_⟩,fun h1 s' hv=>?_⟩
  ·simp only[bI]at h2
   exact gR (last (hstep x rest ht (P3 (of_decide_eq_true (jT h1)))) (by clear h1 w6 m1;omega) hv)
  ·simp only[bR]at h2
   exact next (hstep x rest ht (P3 (of_decide_eq_true (jT h1)))) (by clear h1 w6 m1;omega) hv
  ·skip
   exact gR (fin x rest s' hxB ht hq (aet (of_decide_eq_false (jT h1))) hv)
abbrev zJ:List Nat:=eW++[15,17,18,154,155,156]
abbrev Cq (lq s lu V:Nat) (j:Int) (x b c i:Nat):List AV:=gq lq s lu V j++[.int .u64 (x:Nat),.int .u64 (b:Nat),.int .u64 (c:Nat),.mag V,.int .i64 (nl V),.int .i64 (i:Nat)]
include h0 in
theorem Yf {x:Nat} (hlu:lu<2^41) (hj:j+nl V<lu) (hx:x<4294967296) (hu:∀i,i<lu->u i<2^32)
  (hv:bJ zJ s'=some (Cq lq s lu V j x 0 0 0,ep lq lu q u))
  (fin:∀b c u' s',b<=1->c<4294967296->(∀i,i<lu->u' i<2^32)->(∀i,i<j\/j+nl V<=i->u' i=u i)->
   val (nl V) (fun i=>u' (j+i))+x*V=val (nl V) (fun i=>u (j+i))+(c+b)*2^(32*nl V)->bJ zJ s'=some (Cq lq s lu V j x b c (nl V),ep lq lu q u')->Q .normal s'):
  az P c f168.ntmps (part v9 [1,0,1]) s' Q:=by
 refine az.jG (i:=5) (y:=part v9 [1,0,1,0,0]) ah zJ 9 h0 (fun p:Nat×Nat×Nat×(Nat->Nat)=>Cq lq s lu V j x p.2.1 p.2.2.1 p.1) (fun p=>ep lq lu q p.2.2.2) (fun _=>rfl) (fun _=>kF)
  (fun p=>p.1<=nl V/\p.2.1<=1/\p.2.2.1<4294967296/\(∀i,i<lu->p.2.2.2 i<2^32)/\(∀i,i<j\/j+p.1<=i->p.2.2.2 i=u i)/\
   val p.1 (fun i=>p.2.2.2 (j+i))+x*val p.1 (aG V)=val p.1 (fun i=>u (j+i))+(p.2.2.1+p.2.1)*2^(32*p.1)) (fun p=>nl V-p.1) (0,0,0,u) hv
  ⟨by simp,by simp,by simp,hu,fun i _=>rfl,by simp[val]⟩ ?_
 rintro⟨i,b,cc,u'⟩ ⟨hi,hb,hc,hu',hout,hval⟩
 simp only at hi hb hc hu' hout hval
 refine az.bU hT kS hm 60 zJ div_mul ah ?_
 simp only[ag.all,aC,bI,bR,beq_iff_eq]
 refine⟨fun h1=>?_,fun h1 s' hv=>?_⟩
 ·have hin:i<nl V:=aa
  have w1:i64.wrap ((i:Int)+(j:Int))=((j+i:Nat):Int):=gl aa aa
  rw[w1]
  simp only[bS,Nat.add_zero]
  obtain⟨m1,m2,m3⟩:=Ts hc hx (fB (N:=V) (i:=i))
  have hui:=hu' (j+i) aa
  obtain⟨g1,g2⟩:=QL (u:=u' (j+i)) (c:=(cc+x*aG V i)%4294967296) hui aa hb
  rw[m1,agB m2,g1,g2,nY]
  refine⟨aa,aa,aa,aa,aa,fun s' hv=>⟨(i+1,(if(cc+x*aG V i)%4294967296+b<=u' (j+i)then 0 else 1),(cc+x*aG V i)/4294967296,cX u' (j+i) ((u' (j+i)+4294967296-(cc+x*aG V i)%4294967296-b)%4294967296)),fC hv ?_ ?_,⟨by simp only;omega,by simp only;split<;>omega,m3,jQ aa hu',fun k hk=>?_,?_⟩,by simp only;omega⟩⟩
  ·rw[gl (a:=(i:Int)+1) (n:=i+1) aa aa]
   simp only[Cq,gq,List.cons_append,List.nil_append,List.cons.injEq,AV.int.injEq,and_true,true_and]
   omega
  ·simp only[ep]
   congr 4
   funext k
   exact jC rfl k
  ·simp only at hk ⊢
   rw[iw aa]
   exact hout k aa
  ·simp only
   rw[val,val,val,me,val_congr (y:=fun i=>u' (j+i)) fun k hk=>iw aa,jH,<-hout (j+i) aa]
   exact Sr aa hb hui rfl hval
 ·have hin:i=nl V:=aa
  subst hin
  rw[iW]at hval
  exact gR (fin b cc u' s' hb hc hu' hout hval hv)
abbrev Bo:List Nat:=eW++[15,18,214,215,216]
abbrev D7 (lq s lu V:Nat) (j:Int) (x c i:Nat):List AV:=gq lq s lu V j++[.int .u64 (x:Nat),.int .u64 (c:Nat),.mag V,.int .i64 (nl V),.int .i64 (i:Nat)]
include h0 in
theorem VC {x:Nat} (hlu:lu<2^41) (hj:j+nl V<lu) (hu:∀i,i<lu->u i<2^32)
  (hv:bJ Bo s'=some (D7 lq s lu V j x 0 0,ep lq lu q u))
  (fin:∀c u' s',c<=1->(∀i,i<lu->u' i<2^32)->(∀i,i<j\/j+nl V<=i->u' i=u i)->
   val (nl V) (fun i=>u' (j+i))+c*2^(32*nl V)=val (nl V) (fun i=>u (j+i))+V->bJ Bo s'=some (D7 lq s lu V j x c (nl V),ep lq lu q u')->Q .normal s'):
  az P c f168.ntmps (part ue [1,1,0,1]) s' Q:=by
 refine az.jG (i:=7) (y:=part ue [1,1,0,1,0,0]) ah Bo 9 h0 (fun p:Nat×Nat×(Nat->Nat)=>D7 lq s lu V j x p.2.1 p.1) (fun p=>ep lq lu q p.2.2) (fun _=>rfl) (fun _=>kF)
  (fun p=>p.1<=nl V/\p.2.1<=1/\(∀i,i<lu->p.2.2 i<2^32)/\(∀i,i<j\/j+p.1<=i->p.2.2 i=u i)/\
   val p.1 (fun i=>p.2.2 (j+i))+p.2.1*2^(32*p.1)=val p.1 (fun i=>u (j+i))+val p.1 (aG V)) (fun p=>nl V-p.1) (0,0,u) hv
  ⟨by simp,by simp,hu,fun i _=>rfl,by simp[val]⟩ ?_
 rintro⟨i,cc,u'⟩ ⟨hi,hc,hu',hout,hval⟩
 simp only at hi hc hu' hout hval
 refine az.bU hT kS hm 60 Bo div_add ah ?_
 simp only[ag.all,aC,bI,bR,beq_iff_eq]
 refine⟨fun h1=>?_,fun h1 s' hv=>?_⟩
 ·have hin:i<nl V:=aa
  have w1:i64.wrap ((i:Int)+(j:Int))=((j+i:Nat):Int):=gl aa aa
  rw[w1]
  simp only[bS,Nat.add_zero]
  have hui:=hu' (j+i) aa
  have hvi:=fB (N:=V) (i:=i)
  have m1:u64.wrap ((cc:Int)+u64.wrap (u64.wrap (u' (j+i):Int)+u64.wrap (aG V i:Int)))=((cc+u' (j+i)+aG V i:Nat):Int):=by
   rw[cR (x:=(u' (j+i):Int)) aa aa,cR (x:=(aG V i:Int)) aa aa,cR (x:=(u' (j+i):Int)+_) aa aa,cR aa aa]
   omega
  rw[m1,nY]
  refine⟨aa,aa,aa,aa,fun s' hv=>⟨(i+1,(cc+u' (j+i)+aG V i)/4294967296,cX u' (j+i) ((cc+u' (j+i)+aG V i)%4294967296)),fC hv ?_ ?_,⟨by simp only;omega,by simp only;omega,jQ aa hu',fun k hk=>?_,?_⟩,by simp only;omega⟩⟩
  ·rw[gl (a:=(i:Int)+1) (n:=i+1) aa aa]
   simp only[D7,gq,List.cons_append,List.nil_append,List.cons.injEq,AV.int.injEq,and_true,true_and]
   omega
  ·simp only[ep]
   congr 4
   funext k
   exact jC (by rw[lE]) k
  ·simp only at hk ⊢
   rw[iw aa]
   exact hout k aa
  ·simp only
   rw[val,val,val,me,val_congr (y:=fun i=>u' (j+i)) fun k hk=>iw aa,jH,<-hout (j+i) aa]
   have:=EW (B:=2^(32*i)) (c:=cc) (z:=u' (j+i)) (y:=aG V i) rfl hval
   omega
 ·have hin:i=nl V:=aa
  subst hin
  rw[iW]at hval
  exact gR (fin cc u' s' hc hu' hout hval hv)
end pieces
end Go.Am.B
namespace Go.Am.B
open Go Go.Am.N AV Proofs.Tryz IntKind
theorem Al {ls:List Nat} {vs:List AV} {os:aI} {s':aP} (hv:bJ ls s'=some (vs,os)) {t:Nat} {v:AV} (ht:v.isTuple=false) (h:look t (aH ls vs)=some v):look t s'.dZ=some v:=by
 unfold bJ at hv
 simp only[aB,Prod.mk.injEq]at hv
 obtain⟨rfl,_⟩:=hv
 exact F7 ht h
theorem Ya {V:Nat} {w:Nat->Nat} (hn:2<=nl V):V=(aG V (nl V-1)*4294967296+aG V (nl V-2))*2^(32*(nl V-2))+val (nl V-2) (aG V)/\
  val (nl V+1) w=((w (nl V)*4294967296+w (nl V-1))*4294967296+w (nl V-2))*2^(32*(nl V-2))+val (nl V-2) w:=by
 obtain⟨k,hk⟩:∃k,nl V=k+2:=⟨nl V-2,aa⟩
 constructor
 ·conv=>lhs;rw[<-iW (N:=V),hk]
  rw[hk,show k+2-1=k+1 by omega,show k+2-2=k by omega,val,val,jH]
  grind
 ·rw[hk,show k+2-1=k+1 by omega,show k+2-2=k by omega,val,val,val,jH,jH]
  grind
section pieces
variable {c:Ctx} (h0:∀k x,c.k0 k=some x->k<9) {Q:au->aP->Prop} {lq s lu V j:Nat} {q u:Nat->Nat} {s':aP}
include h0 in
theorem Xt (hlu:lu<2^41) (hn:2<=nl V) (hnorm:2^31<=aG V (nl V-1)) (hj:j+nl V<lu) (hjq:j<lq) (hu:∀i,i<lu->u i<2^32) (hW:val (nl V+1) (fun i=>u (j+i))<V*4294967296)
  (fin:∀x u' s',x<4294967296->(∀i,i<lu->u' i<2^32)->(∀i,i<j\/j+nl V<i->u' i=u i)->val (nl V+1) (fun i=>u' (j+i))+x*V=val (nl V+1) (fun i=>u (j+i))->val (nl V+1) (fun i=>u' (j+i))<V->
   bJ eW s'=some (gq lq s lu V j,ep lq lu (cX q j x) u')->Q .normal s'):
  az P c f168.ntmps sx ⟨aH eW (gq lq s lu V j),ep lq lu q u,9⟩ Q:=by
 obtain⟨dV,dW⟩:=Ya (V:=V) (w:=fun i=>u (j+i)) hn
 have hVpos:0<V:=Nat.pos_of_ne_zero (jc.1 aa)
 have hP:0<2^(32*(nl V-2)):=Nat.two_pow_pos _
 have hl1:val (nl V-2) (aG V)<2^(32*(nl V-2)):=iL fun i _=>fB
 have hl2:val (nl V-2) (fun i=>u (j+i))<2^(32*(nl V-2)):=iL fun i _=>hu _ aa
 have hv1:aG V (nl V-1)<4294967296:=fB
 have hv2:aG V (nl V-2)<4294967296:=fB
 have u1:=hu (j+nl V) aa
 have u2:=hu (j+(nl V-1)) aa
 have u3:=hu (j+(nl V-2)) aa
 have hq1:val (nl V+1) (fun i=>u (j+i))/V*V<=val (nl V+1) (fun i=>u (j+i)):=Nat.div_mul_le_self _ _
 have hq2:val (nl V+1) (fun i=>u (j+i))<(val (nl V+1) (fun i=>u (j+i))/V+1)*V:=by
  rw[Nat.mul_comm];exact Nat.lt_mul_div_succ _ hVpos
 generalize hWd:val (nl V+1) (fun i=>u (j+i))=W at*
 generalize hqt:W/V=qt at*
 generalize hv1d:aG V (nl V-1)=v1 at*
 generalize hv2d:aG V (nl V-2)=v2 at*
 obtain⟨top,htop⟩:∃top,u (j+nl V)*4294967296+u (j+(nl V-1))=top:=⟨_,rfl⟩
 rw[htop]at dW
 have ktop:=Sd hP (by decide) dV dW hv2 hl1 hW
 have kini:=Uu hP (by decide) dV dW u3 hl2 aa hq1
 refine az.hole [1,1,0] ah (aJ.bU hT kS hm 60 qh aeQ ah ?_)
 have w1:i64.wrap ((nl V:Int)-1)=((nl V-1:Nat):Int):=gl aa aa
 have w3:i64.wrap ((j:Int)+(nl V:Int))=((j+nl V:Nat):Int):=gl aa aa
 have w4:i64.wrap (((j+nl V:Nat):Int)-1)=((j+nl V-1:Nat):Int):=gl aa aa
 rw[w1,w3,w4]
 simp only[ag.all,aC,bS,Nat.add_zero]
 have e1:j+nl V-1=j+(nl V-1):=aa
 rw[hv1d,e1,cR (x:=(u (j+nl V):Int)) aa aa,xN u1 u2,htop,cR (x:=(v1:Int)) aa aa]
 have htb:top<2^64:=aa
 have e2:u64.wrap ((top:Int).tdiv (v1:Int))=((top/v1:Nat):Int):=by
  rw[<-Int.ofNat_tdiv]
  exact cR aa (by have:=Nat.div_le_self top v1;omega)
 have e3:(top:Int).tmod (v1:Int)=((top%v1:Nat):Int):=(Int.ofNat_tmod _ _).symm
 rw[e2,e3]
 have hdm:=Nat.div_add_mod top v1
 have hml:=Nat.mod_lt top (show 0<v1 by omega)
 have hx34:top/v1<2^34:=by
  rw[Nat.div_lt_iff_lt_mul aa]
  have:2^34*2^31<=2^34*v1:=Nat.mul_le_mul_left _ hnorm
  omega
 refine⟨⟨aa,aa,aa,aa,aa⟩,⟨aa,aa,aa,aa⟩,fun s' hv=>?_⟩
 have e4:j+nl V-2=j+(nl V-2):=aa
 refine SH (top:=top) (qt:=qt) (v1:=v1) (v2:=v2) (u3:=u (j+(nl V-2))) h0 hlu hn hj hv1d hv2d (by rw[e4]) u3 (by rw[Nat.mul_comm];exact hdm) aa kini hx34 (adB hq1 hW)
  (fun x rest ht h=>TH dV dW hl2 ht hq1 h) (fun x rest ht h=>acT ht ktop h) hv fun x rest s' hx ht hq hxr hv=>?_
 have kend:=akH hP dV dW aa hl1 hx ht hxr
 show aJ P c f168.ntmps (behind sx [1,1,0]) s' _
 refine aJ.lZ (nx:=9) hv h0 ah rfl kF ?_
 refine az.hole [1,0,1] ah (aJ.bU hT kS hm 60 zJ agA ah fun s' hv=>?_)
 refine Yf h0 hlu hj hx hu hv fun b cc u' s' hb hc hu' hout hval hv=>?_
 show aJ P c f168.ntmps (behind v9 [1,0,1]) s' _
 have hv:=lR (ls:=eW++[15,17,18]) (l:=[154,155,156]) (vs:=gq lq s lu V j++[.int .u64 (x:Nat),.int .u64 (b:Nat),.int .u64 (cc:Nat)]) hv rfl rfl
 refine aJ.lZ (nx:=9) hv h0 ah rfl kF ?_
 refine az.hole [1,1,0,1] ah (aJ.bU hT kS hm 60 (eW++[15,211]) abO ah ?_)
 rw[w3]
 simp only[ag.all,aC,bS,Nat.add_zero,beq_iff_eq]
 have hun:=hu' (j+nl V) aa
 have houtn:u' (j+nl V)=u (j+nl V):=hout _ aa
 obtain⟨g1,g2⟩:=QL (u:=u' (j+nl V)) (c:=cc) hun hc hb
 rw[g1,g2]
 refine⟨⟨aa,aa⟩,⟨aa,aa⟩,aa,fun s' hv=>?_⟩
 -- the limbs behind the multiplication
 have hWs:W=val (nl V) (fun i=>u (j+i))+u (j+nl V)*2^(32*nl V):=by rw[<-hWd,val]
 have hlow:val (nl V) (fun i=>u' (j+i))<2^(32*nl V):=iL fun i hi=>hu' _ aa
 have hVl:V<2^(32*nl V):=oS
 have put:∀{x:Nat} {u2:Nat->Nat} {s':aP} {Q':au->aP->Prop},(∀s',Q .normal s'->Q' .normal s')->x<4294967296->(∀i,i<lu->u2 i<2^32)->(∀i,i<j\/j+nl V<i->u2 i=u i)->val (nl V+1) (fun i=>u2 (j+i))+x*V=W->val (nl V+1) (fun i=>u2 (j+i))<V->
   bJ (eW++[15]) s'=some (gq lq s lu V j++[.int .u64 (x:Nat)],ep lq lu q u2)->aJ P c f168.ntmps (behind CN [1,1,0,1]) s' Q':=by
  intro x u2 s' Q' hQ hx h1 h2 h3 h4 hv
  refine aJ.gL hT kS hm 60 (nx:=9) hv h0 rfl kF eW aiB ah ah ?_
  simp only[ag.all,aC,bS,Nat.add_zero,beq_iff_eq]
  refine⟨⟨aa,aa⟩,fun s' hv=>hQ _ (fin x u2 s' hx h1 h2 h3 h4 (fC hv rfl ?_))⟩
  simp only[ep]
  congr 4
  funext k
  exact jC (wrap_u32 aa aa) k
 have hset:(fun j_1=>if j_1=j+nl V then AV.int .u32 (((u' (j+nl V)+4294967296-cc-b)%4294967296:Nat):Int)else aF u' j_1)=aF (cX u' (j+nl V) ((u' (j+nl V)+4294967296-cc-b)%4294967296)):=by
  funext k;exact jC rfl k
 rw[hset]at hv
 have hval2:val (nl V+1) (fun i=>cX u' (j+nl V) ((u' (j+nl V)+4294967296-cc-b)%4294967296) (j+i))=val (nl V) (fun i=>u' (j+i))+(u' (j+nl V)+4294967296-cc-b)%4294967296*2^(32*nl V):=by
  rw[val,me,val_congr fun k hk=>iw aa]
 have hrho:=Al hv (t:=211) (v:=.bool (((if cc+b<=u' (j+nl V)then 0 else 1:Nat):Int)!=0)) rfl rfl
 refine az.cond (P:=P) (c:=c) (nt:=f168.ntmps) (b:=.tmp 211) (x:=ue) (y:=.skip) hrho (fun ht=>?_) (fun ht=>?_)
 ·-- one too many
  have hneg:¬cc+b<=u' (j+nl V):=by
   intro h
   rw[if_pos h]at ht
   simp at ht
  have hx0:0<x:=by
   rcases Nat.eq_zero_or_pos x with h|h
   ·subst h
    rw[Nat.zero_mul]at hval
    have h1:0<2^(32*nl V):=Nat.two_pow_pos _
    have:val (nl V) (fun i=>u (j+i))=val (nl V) (fun i=>u (j+i)):=rfl
    have hc0:cc+b=0:=by
     rcases Nat.eq_zero_or_pos (cc+b)with h|h
     ·exact h
     ·have h2:1*2^(32*nl V)<=(cc+b)*2^(32*nl V):=Nat.mul_le_mul_right _ h
      omega
    omega
   ·exact h
  have hv:=lR (ls:=eW++[15]) (l:=[211]) (vs:=gq lq s lu V j++[.int .u64 (x:Nat)]) hv rfl rfl
  have hu2:∀i,i<lu->cX u' (j+nl V) ((u' (j+nl V)+4294967296-cc-b)%4294967296) i<2^32:=jQ aa hu'
  refine az.lZ (nx:=9) hv h0 rfl kF ?_
  refine az.hole [1,1,0,1] ah (aJ.bU hT kS hm 60 Bo ahT ah fun s' hv=>?_)
  have hx1:u64.wrap ((x:Int)-1)=((x-1:Nat):Int):=by rw[cR aa aa];omega
  rw[hx1]at hv
  refine VC (x:=x-1) h0 hlu hj hu2 hv fun c2 u3 s' hc2 hu3 hout3 hval3 hv=>?_
  have hv:=lR (ls:=eW++[15,18]) (l:=[214,215,216]) (vs:=gq lq s lu V j++[.int .u64 ((x-1:Nat):Int),.int .u64 (c2:Nat)]) hv rfl rfl
  show aJ P c f168.ntmps (behind ue [1,1,0,1]) s' _
  refine aJ.gL hT kS hm 60 (nx:=9) hv h0 rfl kF (eW++[15]) WT ah ah ?_
  rw[w3]
  simp only[ag.all,aC,bS,Nat.add_zero,beq_iff_eq]
  refine⟨⟨aa,aa,aa,aa⟩,fun s' hv=>?_⟩
  have hu3n:=hu3 (j+nl V) aa
  have hadd:u32.wrap ((u3 (j+nl V):Int)+u32.wrap (c2:Int))=(((u3 (j+nl V)+c2)%4294967296:Nat):Int):=by
   rw[nM,nM];omega
  rw[hadd]at hv
  have hset3:(fun j_1=>if j_1=j+nl V then AV.int .u32 (((u3 (j+nl V)+c2)%4294967296:Nat):Int)else aF u3 j_1)=aF (cX u3 (j+nl V) ((u3 (j+nl V)+c2)%4294967296)):=by
   funext k;exact jC rfl k
  rw[hset3]at hv
  -- the sum
  have h3top:u3 (j+nl V)=(u' (j+nl V)+4294967296-cc-b)%4294967296:=by rw[hout3 _ aa,me]
  have hlow3:val (nl V) (fun i=>cX u' (j+nl V) ((u' (j+nl V)+4294967296-cc-b)%4294967296) (j+i))=val (nl V) (fun i=>u' (j+i)):=val_congr fun k hk=>iw aa
  rw[hlow3]at hval3
  have hval4:val (nl V+1) (fun i=>cX u3 (j+nl V) ((u3 (j+nl V)+c2)%4294967296) (j+i))=val (nl V) (fun i=>u3 (j+i))+(u3 (j+nl V)+c2)%4294967296*2^(32*nl V):=by
   rw[val,me,val_congr fun k hk=>iw aa]
  have hlow4:val (nl V) (fun i=>u3 (j+i))<2^(32*nl V):=iL fun i hi=>hu3 _ aa
  have hxV:x*V=(x-1)*V+V:=by
   obtain⟨y,rfl⟩:∃y,x=y+1:=⟨x-1,aa⟩
   simp[Nat.add_mul]
  have hsum:val (nl V) (fun i=>u3 (j+i))+(u3 (j+nl V)+c2)%4294967296*2^(32*nl V)+(x-1)*V=W/\val (nl V) (fun i=>u3 (j+i))+(u3 (j+nl V)+c2)%4294967296*2^(32*nl V)<V:=by
   have hq3:W<x*V:=by
    -- a borrow was left
    have h1:(u (j+nl V)+1)*2^(32*nl V)<=(cc+b)*2^(32*nl V):=Nat.mul_le_mul_right _ aa
    rw[Nat.add_mul,Nat.one_mul]at h1
    omega
   have hx4:(u3 (j+nl V)+c2)%4294967296*2^(32*nl V)+4294967296*2^(32*nl V)*((u' (j+nl V)+4294967296-cc-b)%4294967296+c2-(u3 (j+nl V)+c2)%4294967296+0)/4294967296=(u3 (j+nl V)+c2)%4294967296*2^(32*nl V)+4294967296*2^(32*nl V)*((u' (j+nl V)+4294967296-cc-b)%4294967296+c2-(u3 (j+nl V)+c2)%4294967296+0)/4294967296:=rfl
   clear hx4
   -- the top aG: u' - cc - b + c2, plus 2^32 or not
   rw[h3top]
   generalize hT1:2^(32*nl V)=T at*
   generalize hL0:val (nl V) (fun i=>u (j+i))=L0 at*
   generalize hL1:val (nl V) (fun i=>u' (j+i))=L1 at*
   generalize hL3:val (nl V) (fun i=>u3 (j+i))=L3 at*
   have hT0:0<T:=by rw[<-hT1];exact Nat.two_pow_pos _
   rw[houtn]
   rw[houtn]at hneg
   generalize hUn:u (j+nl V)=Un at*
   -- L3 + c2 T = L1 + V, L1 + x V = L0 + (cc + b) T, W = L0 + Un T, W < x V < W + V
   have hcase:cc+b=Un+1+(cc+b-Un-1):=aa
   have hd:cc+b-Un<=c2:=by
    rcases Nat.lt_or_ge c2 (cc+b-Un)with h|h
    ·exfalso
     have h5:(Un+c2+1)*T<=(cc+b)*T:=Nat.mul_le_mul_right _ aa
     rw[Nat.add_mul,Nat.add_mul,Nat.one_mul]at h5
     omega
    ·exact h
   have hc21:c2=1:=aa
   have hcb:cc+b=Un+1:=aa
   subst hc21
   have e5:(Un+4294967296-cc-b)%4294967296=4294967295:=aa
   rw[e5]
   rw[hcb,Nat.add_mul,Nat.one_mul]at hval
   simp only[Nat.one_mul]at hval3
   constructor
   ·simp;omega
   ·simp;omega
  rw[<-hval4]at hsum
  refine put (fun _ h=>h) aa (jQ aa hu3) (fun k hk=>?_) hsum.1 hsum.2 hv
  rw[iw aa,hout3 k aa,iw aa,hout k aa]
 ·have hpos:cc+b<=u' (j+nl V):=by
   rcases Nat.lt_or_ge (u' (j+nl V)) (cc+b)with h|h
   ·rw[if_neg aa]at ht
    simp at ht
   ·exact h
  refine az.skip ?_
  have hv:=lR (ls:=eW++[15]) (l:=[211]) (vs:=gq lq s lu V j++[.int .u64 (x:Nat)]) hv rfl rfl
  have e5:(u' (j+nl V)+4294967296-cc-b)%4294967296=u' (j+nl V)-cc-b:=aa
  rw[e5]at hval2 hv
  have e6:u (j+nl V)*2^(32*nl V)=(u' (j+nl V)-cc-b)*2^(32*nl V)+(cc+b)*2^(32*nl V):=by
   rw[<-Nat.add_mul];congr 1;omega
  have h7:val (nl V+1) (fun i=>cX u' (j+nl V) (u' (j+nl V)-cc-b) (j+i))+x*V=W:=by
   rw[hval2];omega
  refine put (fun _ h=>h) hx (jQ aa hu') (fun k hk=>?_) h7 ?_ hv
  ·rw[iw aa,hout k aa]
  ·have h8:qt*V<=x*V:=Nat.mul_le_mul_right _ hq
   rw[Nat.add_mul,Nat.one_mul]at hq2
   omega
end pieces
end Go.Am.B
namespace Go.Am.B
open Go Go.Am.N AV Proofs.Tryz IntKind
theorem aJ.cat {P:Program} {c:Ctx} {nt:Nat} {Q:au->aP->Prop}:∀{a b:List Code} {s:aP},aJ P c nt a s (fW (fun s'=>aJ P c nt b s' Q) Q)->aJ P c nt (a++b) s Q
 |[],b,s,h=>h
 |x::a,b,s,h=>az.mono h fun e s' h=>by
  cases e with
  |normal=>exact aJ.cat (a:=a) h
  |exit i=>exact h
  |ret=>exact h
theorem aJ.chunk {P:Program} {c:Ctx} {nt:Nat} {Q:au->aP->Prop} {l:List Code} {s:aP} (k:Nat) (h:aJ P c nt (l.take k) s (fW (fun s'=>aJ P c nt (l.drop k) s' Q) Q)):aJ P c nt l s Q:=by
 have:=aJ.cat h
 rwa [List.take_append_drop]at this
theorem Qv {B s:Nat} (hB:B≠0) (hs:s=32-ck (aG B (nl B-1))):s<32/\nl (B*2^s)=nl B/\2^31<=aG (B*2^s) (nl B-1)/\B*2^s<2^(32*nl B):=by
 have hp:=jc.2 hB
 have htop:=AH hB
 have hlt:=fB (N:=B) (i:=nl B-1)
 have hk:ck (aG B (nl B-1))<=32:=kJ.2 hlt
 have hk0:0<ck (aG B (nl B-1)):=by unfold ck;rw[if_neg htop];omega
 have h1:aG B (nl B-1)<2^ck (aG B (nl B-1)):=kJ.1 aX
 have h2:2^(ck (aG B (nl B-1))-1)<=aG B (nl B-1):=by
  rcases Nat.lt_or_ge (aG B (nl B-1)) (2^(ck (aG B (nl B-1))-1))with h|h
  ·have:=kJ.2 h;omega
  ·exact h
 have hBd:B=val (nl B-1) (aG B)+aG B (nl B-1)*2^(32*(nl B-1)):=by
  have:=iW (N:=B)
  obtain⟨k,hk⟩:∃k,nl B=k+1:=⟨nl B-1,aa⟩
  rw[hk,val]at this
  rw[hk,Nat.add_sub_cancel]
  exact this.symm
 have hlow:val (nl B-1) (aG B)<2^(32*(nl B-1)):=iL fun i _=>fB
 generalize hb1:aG B (nl B-1)=b1 at*
 generalize hkd:ck b1=k at*
 generalize hlo:val (nl B-1) (aG B)=low at*
 have hT:0<2^(32*(nl B-1)):=Nat.two_pow_pos _
 have eT:2^(32*nl B)=2^32*2^(32*(nl B-1)):=by rw[<-Nat.pow_add];congr 1;omega
 have hS:0<2^s:=Nat.two_pow_pos _
 have hks:2^k*2^s=2^32:=by rw[<-Nat.pow_add];congr 1;omega
 have hks1:2^(k-1)*2^s=2^31:=by rw[<-Nat.pow_add];congr 1;omega
 have hlo1:2^31<=b1*2^s:=by rw[<-hks1];exact Nat.mul_le_mul_right _ h2
 have hhi1:(b1+1)*2^s<=2^32:=by rw[<-hks];exact Nat.mul_le_mul_right _ h1
 obtain⟨T,hTd⟩:∃T,T=2^(32*(nl B-1)):=⟨_,rfl⟩
 rw[<-hTd]at hT eT hBd hlow
 have hVlt:B*2^s<2^32*T:=by
  have a1:B<(b1+1)*T:=by rw[Nat.add_mul,Nat.one_mul];omega
  have a2:B*2^s<(b1+1)*T*2^s:=(Nat.mul_lt_mul_right hS).2 a1
  have a3:(b1+1)*T*2^s=(b1+1)*2^s*T:=by rw[Nat.mul_assoc,Nat.mul_comm T,<-Nat.mul_assoc]
  have a4:(b1+1)*2^s*T<=2^32*T:=Nat.mul_le_mul_right _ hhi1
  omega
 have hVge:b1*2^s*T<=B*2^s:=by
  have a1:b1*T*2^s<=B*2^s:=Nat.mul_le_mul_right _ aa
  have a3:b1*T*2^s=b1*2^s*T:=by rw[Nat.mul_assoc,Nat.mul_comm T,<-Nat.mul_assoc]
  omega
 have hV31:2^31*T<=B*2^s:=Nat.le_trans (Nat.mul_le_mul_right _ hlo1) hVge
 refine⟨aa,?_,?_,by rw[eT];exact hVlt⟩
 ·have a1:nl (B*2^s)<=nl B:=eP.2 (by rw[eT];exact hVlt)
  have a2:¬nl (B*2^s)<=nl B-1:=by
   rw[eP,<-hTd]
   omega
  omega
 ·unfold aG
  rw[<-hTd]
  have a1:B*2^s/T<2^32:=by rw[Nat.div_lt_iff_lt_mul hT];exact hVlt
  have a2:2^31<=B*2^s/T:=by rw[Nat.le_div_iff_mul_le hT];exact hV31
  rw[Nat.mod_eq_of_lt a1];exact a2
section pieces
variable {c:Ctx} (h0:∀k x,c.k0 k=some x->k<9) {Q:au->aP->Prop} {lq s lu V:Nat} {q u:Nat->Nat} {s':aP}
include h0 in
theorem ajx {N:Nat} (hlu:lu=lq+nl V) (hlu2:lu<2^41) (hn:2<=nl V) (hnorm:2^31<=aG V (nl V-1)) (hu:∀i,i<lu->u i<2^32) (hN:val lu u=N) (hlt:N<V*2^(32*lq))
  (hv:bJ eW s'=some (gq lq s lu V ((lq:Int)-1),ep lq lu (fun _=>0) u))
  (fin:∀q u s',(∀i,i<lu->u i<2^32)->(∀i,i<lq->q i<2^32)->val lq q*V+val lu u=N->val lu u<V->bJ eW s'=some (gq lq s lu V (-1),ep lq lu q u)->Q .normal s'):
  az P c f168.ntmps (part (aK f168) pe) s' Q:=by
 refine az.jG (i:=1) (y:=yK) ah eW 9 h0 (fun p:Nat×(Nat->Nat)×(Nat->Nat)=>gq lq s lu V ((p.1:Int)-1)) (fun p=>ep lq lu p.2.1 p.2.2) (fun _=>rfl) (fun _=>kF)
  (fun p=>p.1<=lq/\(∀i,i<lu->p.2.2 i<2^32)/\(∀i,i<lq->p.2.1 i<2^32)/\(∀i,i<p.1->p.2.1 i=0)/\(∀i,p.1+nl V<=i->i<lu->p.2.2 i=0)/\val lq p.2.1*V+val (p.1+nl V) p.2.2=N/\val (p.1+nl V) p.2.2<V*2^(32*p.1))
  (fun p=>p.1) (lq,(fun _=>0),u) hv ⟨by simp,hu,fun i _=>by simp,fun i _=>rfl,fun i h1 h2=>by simp only at h1;omega,?_,?_⟩ ?_
 ·simp only;rw[val_zero fun _ _=>rfl,<-hlu,hN];omega
 ·simp only;rw[<-hlu,hN];exact hlt
 rintro⟨m,q,u⟩ ⟨hm',hu,hq,hq0,hu0,hval,hlt⟩
 simp only at hm' hu hq hq0 hu0 hval hlt
 refine az.hole [1,0] ah (aJ.bU hT kS hm 60 eW ZP ah ?_)
 simp only[ag.all,bI,bR]
 refine⟨fun hb s' hv=>?_,fun hb s' hv=>?_⟩
 ·obtain⟨j,rfl⟩:∃j,m=j+1:=⟨m-1,aa⟩
  have hv:bJ eW s'=some (gq lq s lu V (j:Nat),ep lq lu q u):=fC hv (by
   simp only[gq,List.cons.injEq,AV.int.injEq,and_true,true_and];omega) rfl
  have hsplit:=val_add (z:=u) (a:=j) (b:=nl V+1)
  rw[show j+(nl V+1)=j+1+nl V by omega]at hsplit
  have hBj:0<2^(32*j):=Nat.two_pow_pos _
  have hW:val (nl V+1) (fun i=>u (j+i))<V*4294967296:=by
   have e:V*2^(32*(j+1))=V*4294967296*2^(32*j):=by rw[jH,Nat.mul_assoc]
   rw[e]at hlt
   refine Nat.lt_of_mul_lt_mul_right (a:=2^(32*j)) ?_
   omega
  refine az.rT (i:=2) (y:=sx) ah (az.lZ (nx:=9) hv h0 rfl kF ?_)
  refine Xt h0 hlu2 hn hnorm aa aa hu hW fun x u' s' hx hu' hout hsum hlt' hv=>?_
  show aJ P c f168.ntmps (behind yK [1,0]) s' _
  refine aJ.gL hT kS hm 60 (nx:=9) hv h0 rfl kF eW Vm ah ah fun s' hv=>?_
  have hjl:val j u'=val j u:=val_congr fun i hi=>hout i aa
  have hsplit':=val_add (z:=u') (a:=j) (b:=nl V+1)
  have hVl:V<2^(32*nl V):=oS
  have htop0:u' (j+nl V)=0:=UA (z:=fun i=>u' (j+i)) (n:=nl V) aa
  have hsplit2:=val_add (z:=u') (a:=j) (b:=nl V)
  have hw1:val (nl V+1) (fun i=>u' (j+i))=val (nl V) (fun i=>u' (j+i)):=by rw[val,htop0];simp
  have hjlt:val j u<2^(32*j):=iL fun i hi=>hu i aa
  refine⟨(j,cX q j x,u'),fC hv ?_ rfl,⟨by simp only;omega,hu',jQ hx hq,fun i hi=>?_,fun i h1 h2=>?_,?_,?_⟩,by simp only;omega⟩
  ·simp only[gq,List.cons.injEq,AV.int.injEq,and_true,true_and]
   rw[wrap_i64 aa aa]
  ·simp only at hi ⊢
   rw[iw aa];exact hq0 i aa
  ·simp only at h1
   show u' i=0
   by_cases hi:i=j+nl V
   ·subst hi;exact htop0
   ·rw[hout i aa];exact hu0 i aa h2
  ·simp only
   rw[u6 aa (hq0 j aa),hsplit2,hjl,<-hw1]
   rw[hsplit,<-hsum]at hval
   rw[Nat.add_mul]at hval ⊢
   rw[show x*2^(32*j)*V=x*V*2^(32*j) by rw[Nat.mul_assoc,Nat.mul_comm (2^(32*j)),<-Nat.mul_assoc]]
   omega
  ·simp only
   rw[hsplit2,hjl,<-hw1]
   have:=Nat.mul_le_mul_right (2^(32*j)) hlt'
   rw[Nat.succ_mul]at this
   omega
 ·have hm0:m=0:=aa
  subst hm0
  refine ud (gR (fin q u s' hu hq ?_ ?_ (fC hv rfl rfl)))
  ·rw[pX (k:=0+nl V) aa hu0];exact hval
  ·rw[pX (k:=0+nl V) aa hu0];simpa using hlt
theorem SL {x s:Nat} (h:s<32):(x:Int).fdiv (2^min ((s:Int).toNat) u32.bits)=((x/2^s:Nat):Int):=by
 have:=yB (x:=x) (s:=(s:Int)) aa aa
 simpa using this
theorem acu {a b:Nat} (ha:a<2^32) (hb:b<2^32):
  u32.wrap ((BitVec.ofInt u32.bits (a:Int)|||BitVec.ofInt u32.bits (b:Int)).toNat:Int)=((a|||b:Nat):Int):=by
 have e:(BitVec.ofInt u32.bits (a:Int)|||BitVec.ofInt u32.bits (b:Int)).toNat=a|||b:=by
  rw[BitVec.toNat_or,BitVec.ofInt_natCast,BitVec.ofInt_natCast,BitVec.toNat_ofNat,BitVec.toNat_ofNat]
  rw[show u32.bits=32 from rfl,Nat.mod_eq_of_lt ha,Nat.mod_eq_of_lt hb]
 rw[e]
 have:a|||b<2^32:=Nat.or_lt_two_pow ha hb
 exact wrap_u32 aa aa
theorem abp {a b s:Nat} (hs:s<32) (ha:a<2^32):u32.wrap ((BitVec.ofInt u32.bits ((a/2^s:Nat):Int)|||BitVec.ofInt u32.bits (u32.wrap ((b:Int)*2^min (32-s) u32.bits))).toNat:Int)=
  ((a/2^s+b%2^s*2^(32-s):Nat):Int):=by
 have hB:2^32=2^s*2^(32-s):=by rw[<-Nat.pow_add];congr 1;omega
 have h1:a/2^s<2^(32-s):=by
  rw[Nat.div_lt_iff_lt_mul (Nat.two_pow_pos _),Nat.mul_comm,<-hB];exact ha
 have e1:u32.wrap ((b:Int)*2^min (32-s) u32.bits)=((b%2^s*2^(32-s):Nat):Int):=by
  rw[show u32.bits=32 from rfl,Nat.min_eq_left aa]
  rw[show(b:Int)*2^(32-s)=((b*2^(32-s):Nat):Int) by simp,lE]
  congr 1
  rw[hB,Nat.mul_comm (2^s),Nat.mul_comm b,Nat.mul_mod_mul_left,Nat.mul_comm]
 have h2:b%2^s*2^(32-s)<2^32:=by
  rw[hB]
  exact(Nat.mul_lt_mul_right (Nat.two_pow_pos _)).2 (Nat.mod_lt _ (Nat.two_pow_pos _))
 have h3:a/2^s<2^32:=Nat.lt_of_le_of_lt (Nat.div_le_self _ _) ha
 rw[e1,acu h3 h2]
 congr 1
 rw[Nat.or_comm,uI h1,Nat.add_comm]
abbrev ou:List Nat:=[4,5,9,261,262]
abbrev vg (lq s l i:Nat):List AV:=[.own 8 1 0 lq,.own 7 1 0 l,.int .i64 s,.int .i64 l,.int .i64 (i:Nat)]
include h0 in
theorem V5 {l R:Nat} (hs:s<32) (hlu:lu<2^41) (hl:nl R=l) (hl2:l<=lu) (hu:∀i,i<lu->u i<2^32) (hR:∀i,i<l->u i=aG R i)
  (hv:bJ ou s'=some (vg lq s l 0,ep lq lu q u))
  (fin:∀w s',(∀i,i<lu->w i<2^32)->val l w=R/2^s->bJ ou s'=some (vg lq s l l,ep lq lu q w)->Q .normal s'):
  az P c f168.ntmps (part nD [1,0,1]) s' Q:=by
 refine az.jG (i:=9) (y:=part nD [1,0,1,0,0]) ah ou 9 h0 (fun p:Nat×(Nat->Nat)=>vg lq s l p.1) (fun p=>ep lq lu q p.2) (fun _=>rfl) (fun _=>kF)
  (fun p=>p.1<=l/\(∀i,i<lu->p.2 i<2^32)/\(∀i,i<p.1->p.2 i=aG (R/2^s) i)/\(∀i,p.1<=i->p.2 i=u i))
  (fun p=>l-p.1) (0,u) hv ⟨by simp,hu,fun i hi=>by simp only at hi;omega,fun i _=>rfl⟩ ?_
 rintro⟨i,w⟩ ⟨hi,hw,hdone,hrest⟩
 simp only at hi hw hdone hrest
 refine az.hole [1,1,0] ah (aJ.bU hT z8 hm 60 ou ajb ah ?_)
 simp only[ag.all,bI,bR]
 refine⟨fun hb s' hv=>?_,fun hb s' hv=>?_⟩
 ·have hil:i<l:=aa
  have hwi:w i=aG R i:=by rw[hrest i aa,hR i hil]
  refine az.rT (i:=10) (y:=part nD [1,0,1,0,0,1,1,0,0]) ah (az.lZ (nx:=9) hv h0 rfl kF ?_)
  refine az.hole [1,1] ah (aJ.bU hT z8 hm 60 [4,5,9,25,261,262] ajI ah ?_)
  rw[SL hs]
  simp only[ag.all,aC,bS,Nat.add_zero,beq_iff_eq]
  refine⟨⟨aa,aa,aa,aa,aa⟩,fun s' hv=>?_⟩
  have hset:(fun j=>if j=i then AV.int .u32 ((w i/2^s:Nat):Int)else aF w j)=aF (cX w i (w i/2^s)):=by
   funext k;exact jC rfl k
  rw[hset]at hv
  have hw1:∀k,k<lu->cX w i (w i/2^s) k<2^32:=jQ (Nat.lt_of_le_of_lt (Nat.div_le_self _ _) (hw i aa)) hw
  have next:∀{w':Nat->Nat} {s':aP} {Q':au->aP->Prop},(∀k,k<lu->w' k<2^32)->w' i=aG (R/2^s) i->(∀k,k≠i->w' k=w k)->bJ ou s'=some (vg lq s l i,ep lq lu q w')->
    aJ P c f168.ntmps (behind (part nD [1,0,1,0,0]) [1,1,0]) s' (fW (fun s'=>∃k:Nat×(Nat->Nat),bJ ou s'=some (vg lq s l k.1,ep lq lu q k.2)/\(k.1<=l/\(∀i,i<lu->k.2 i<2^32)/\(∀i,i<k.1->k.2 i=aG (R/2^s) i)/\(∀i,k.1<=i->k.2 i=u i))/\l-k.1<l-i) Q'):=by
   intro w' s' Q' h1 h2 h3 hv
   refine aJ.gL hT z8 hm 60 (nx:=9) hv h0 rfl kF ou YI ah ah fun s' hv=>?_
   refine⟨(i+1,w'),fC hv ?_ rfl,⟨by simp only;omega,h1,fun k hk=>?_,fun k hk=>?_⟩,by simp only;omega⟩
   ·rw[gl (a:=(i:Int)+1) (n:=i+1) aa aa]
   ·simp only at hk ⊢
    by_cases hki:k=i
    ·rw[hki];exact h2
    ·rw[h3 k hki];exact hdone k aa
   ·simp only at hk ⊢
    rw[h3 k aa];exact hrest k aa
  refine az.gL hT z8 hm 60 (nx:=9) hv h0 rfl kF ou age ah ?_
  have w1:i64.wrap ((i:Int)+1)=((i+1:Nat):Int):=gl aa aa
  have w2:i64.wrap (32-(s:Int))=((32-s:Nat):Int):=gl aa aa
  rw[w1,w2]
  simp only[bS,Nat.add_zero,me]
  rw[abp hs (hw i aa)]
  have e1:cX w i (w i/2^s) (i+1)=w (i+1):=iw aa
  rw[e1]
  have same:aG R (i+1)%2^s=0->∀{s':aP},bJ ou s'=some (vg lq s l i,ep lq lu q (cX w i (w i/2^s)))->∀{Q':au->aP->Prop},aJ P c f168.ntmps (behind (part nD [1,0,1,0,0]) [1,1,0]) s' (fW (fun s'=>∃k:Nat×(Nat->Nat),bJ ou s'=some (vg lq s l k.1,ep lq lu q k.2)/\(k.1<=l/\(∀i,i<lu->k.2 i<2^32)/\(∀i,i<k.1->k.2 i=aG (R/2^s) i)/\(∀i,k.1<=i->k.2 i=u i))/\l-k.1<l-i) Q'):=by
   intro h s' hv Q'
   refine next hw1 ?_ (fun k hk=>iw hk) hv
   rw[me,Av hs,h,hwi];simp
  refine⟨fun h1=>⟨h1,fun h2=>?_,fun h2 s' hv=>?_⟩,fun h1=>⟨h1,fun h2=>by simp at h2,fun h2 s' hv=>?_⟩⟩
  ·have h2':i+1<l:=by
    have:=of_decide_eq_true (show decide (((i+1:Nat):Int)<(l:Int))=true from h2)
    omega
   simp only[ag.all,aC,beq_iff_eq]
   refine⟨⟨aa,aa,aa,aa,aa,aa,aa⟩,fun s' hv=>?_⟩
   have hset2:(fun j=>if j=i then AV.int .u32 ((w i/2^s+w (i+1)%2^s*2^(32-s):Nat):Int)else aF (cX w i (w i/2^s)) j)=aF (cX w i (w i/2^s+w (i+1)%2^s*2^(32-s))):=by
    funext k
    unfold aF cX
    by_cases hk:k=i
    ·simp[hk]
    ·simp[hk]
   rw[hset2]at hv
   have hwi1:w (i+1)=aG R (i+1):=by rw[hrest _ aa,hR _ h2']
   have hval:w i/2^s+w (i+1)%2^s*2^(32-s)=aG (R/2^s) i:=by rw[Av hs,hwi,hwi1]
   refine next (jQ (by rw[hval];exact fB) hw) ?_ (fun k hk=>iw hk) hv
   rw[me];exact hval
  ·refine same ?_ hv
   have h2':¬i+1<l:=by
    have:=of_decide_eq_false (show decide (((i+1:Nat):Int)<(l:Int))=false from h2)
    omega
   have hR0:R<2^(32*(i+1)):=eP.1 aa
   unfold aG
   rw[Nat.div_eq_of_lt hR0];simp
  ·have:s=0:=by
    have:=of_decide_eq_false h1
    omega
   refine same ?_ hv
   subst this
   simp[Nat.mod_one]
 ·have hil:i=l:=aa
  subst hil
  refine ud (gR (fin w s' hw ?_ hv))
  rw[val_congr hdone,rH]
  exact Nat.lt_of_le_of_lt (Nat.div_le_self _ _) (eP.1 aa)
end pieces
end Go.Am.B
namespace Go.Am.B
open Go Go.Am.N AV Proofs.Tryz IntKind
abbrev pJ (A B:Nat):AV:=.tuple [.mag (A/B),.mag (if B=0 then 0 else A%B),.int .i64 (if B=0 then 3 else 0)]
theorem abn {n N:Nat}:fL n (aF (aG N)):=jg fun _ _=>fB
theorem CS {a b:Nat}:eu a b<0↔a<b:=by
 unfold eu
 split
 ·simp_all
 ·split<;>simp_all
theorem dx {k:aP->Prop} {Q:au->aP->Prop} {s:aP} (h:k s):fW k Q .normal s:=h
theorem ad7 {c:Ctx} (h0:c.k0=bQ) {A B:Nat} (hA:nl A<2^40) (hn2:2<=nl B) (hAB:B<=A) {Q:au->aP->Prop} {s':aP}
  (hv:bJ [0,1,4,5,6] s'=some ([.mag A,.mag B,.nil,.nil,.int .i64 0],[]))
  (fin:∀s lq V s',s<32->V=B*2^s->nl V=nl B->2^31<=aG V (nl V-1)->lq+nl V=nl A+1->(∃ρ,Le c ρ s' ⟨aH eW (gq lq s (nl A+1) V ((lq:Int)-1)),ep lq (nl A+1) (fun _=>0) (aG (A*2^s)),9⟩)->Q .normal s'):
  aJ P c f168.ntmps ((before (aK f168) pe).drop (2+1)) s' Q:=by
 have hk0:∀{nx:Nat} k x,c.k0 k=some x->k<nx:=lO h0
 have hABn:nl B<=nl A:=jz hAB
 have hB0:B≠0:=fun h=>by subst h;simp[nl]at hn2
 refine aJ.chunk 1 (aJ.gL hT kS hm 60 (nx:=0) hv hk0 rfl trivial [0,1,9] aaE ah ah ?_)
 have w1:i64.wrap ((nl B:Int)-1)=((nl B-1:Nat):Int):=gl aa aa
 rw[w1]
 simp only[ag.all,aC,bS]
 have hlB:=fB (N:=B) (i:=nl B-1)
 refine⟨⟨aa,aa⟩,fun s' hv=>dx ?_⟩
 obtain⟨s,hs⟩:∃s,s=32-ck (aG B (nl B-1)):=⟨_,rfl⟩
 rw[<-hs]at hv
 obtain⟨hs32,hnV,hnorm,hVlt⟩:=Qv hB0 hs
 rw[List.drop_drop]
 refine aJ.chunk 1 (aJ.gL hT kS hm 60 (nx:=0) hv hk0 rfl trivial [9,10,11] Sc ah ah ?_)
 simp only[ag.all,aC,bS,Nat.add_zero]
 refine⟨⟨aa,aa,aa,aa,aa,aa,abn,aa⟩,fun s' hv=>dx ?_⟩
 have hV1:(val (nl B+1) fun i=>numOf (aF (aG (B*2^s)) i))=B*2^s:=by
  rw[lQ,rH]
  exact Nat.lt_of_lt_of_le hVlt (Nat.pow_le_pow_right aa aa)
 rw[hV1]at hv
 obtain⟨V,hV⟩:∃V,V=B*2^s:=⟨_,rfl⟩
 rw[<-hV]at hv hnV hnorm hVlt
 obtain⟨lq,hlq⟩:∃lq,lq=nl A+1-nl V:=⟨_,rfl⟩
 rw[List.drop_drop]
 refine aJ.weak ah (fe (vs:=[.int .i64 s,.own 7 1 0 (nl A+1),.mag V]) (ps:=[(7,⟨true,true,1,nl A+1,aF (aG (A*2^s))⟩)]) (nx:=8) [(7,8192)] hv h0 rfl
  ⟨aY,⟨rfl,eR rfl rfl rfl⟩,aY,trivial⟩ ⟨⟨_,_,rfl,rfl,gZ rfl fun j _=>rfl⟩,trivial⟩) ?_
 refine aJ.bU hT kS hm 60 eW aaQ ah ?_
 have w2:i64.wrap (((nl A+1:Nat):Int)-(nl V:Int))=((lq:Nat):Int):=gl aa aa
 have w3:i64.wrap ((lq:Int)-1)=(lq:Int)-1:=wrap_i64 aa aa
 rw[w2]
 simp only[ag.all,aC,bS,w3]
 exact⟨aa,fun s' hv=>fin s lq V s' hs32 hV hnV (by rw[hnV];exact hnorm) aa (fe (vs:=gq lq s (nl A+1) V ((lq:Int)-1)) (ps:=ep lq (nl A+1) (fun _=>0) (aG (A*2^s))) (nx:=9) [(7,7),(8,28680)] hv h0 rfl
  ⟨⟨rfl,eR rfl rfl rfl⟩,aY,⟨rfl,eR rfl rfl rfl⟩,aY,aY,aY,trivial⟩
  ⟨⟨_,_,rfl,rfl,gZ rfl fun j _=>rfl⟩,⟨_,_,rfl,rfl,gZ rfl fun j _=>rfl⟩,trivial⟩)⟩
theorem WM {A B V s lq:Nat} (hs:s<32) (hV:V=B*2^s) (hn2:2<=nl B) (hnV:nl V=nl B) (hnorm:2^31<=aG V (nl V-1)) (hlq:lq+nl V=nl A+1):A*2^s<2^(32*(nl A+1))/\A*2^s<V*2^(32*lq):=by
 have hS:0<2^s:=Nat.two_pow_pos _
 have hS31:2^s<=2^31:=Nat.pow_le_pow_right aa aa
 have hAl:A<2^(32*nl A):=oS
 have hA2:A*2^s<2^(32*nl A)*2^31:=
  Nat.lt_of_lt_of_le ((Nat.mul_lt_mul_right hS).2 hAl) (Nat.mul_le_mul_left _ hS31)
 have hA3:A*2^s<2^(32*(nl A+1)):=by
  rw[jH];omega
 refine⟨hA3,?_⟩
 have hsp:V=val (nl V-1) (aG V)+aG V (nl V-1)*2^(32*(nl V-1)):=by
  have:=iW (N:=V)
  obtain⟨k,hk⟩:∃k,nl V=k+1:=⟨nl V-1,aa⟩
  rw[hk,val]at this
  rw[hk,Nat.add_sub_cancel]
  exact this.symm
 have h2:2^31*2^(32*(nl V-1))<=V:=by
  have:=Nat.mul_le_mul_right (2^(32*(nl V-1))) hnorm
  omega
 have h3:=Nat.mul_le_mul_right (2^(32*lq)) h2
 have e:2^31*2^(32*(nl V-1))*2^(32*lq)=2^(32*nl A)*2^31:=by
  rw[Nat.mul_assoc,<-Nat.pow_add,Nat.mul_comm]
  congr 2
  omega
 omega
theorem afN {c:Ctx} (h0:∀k x,c.k0 k=some x->k<9) {A B V s lq:Nat} (hA:nl A<2^40) (hB0:B≠0) (hs:s<32) (hV:V=B*2^s) (hn2:2<=nl B) (hnV:nl V=nl B) (hnorm:2^31<=aG V (nl V-1)) (hlq:lq+nl V=nl A+1):
  az P c f168.ntmps (part (aK f168) pe) ⟨aH eW (gq lq s (nl A+1) V ((lq:Int)-1)),ep lq (nl A+1) (fun _=>0) (aG (A*2^s)),9⟩
   (fW (fun s'=>aJ P c f168.ntmps (behind (aK f168) pe) s' (Fin T f168 (pJ A B))) (Fin T f168 (pJ A B))):=by
 obtain⟨z1,z2⟩:=WM (A:=A) hs hV hn2 hnV hnorm hlq
 have hS:0<2^s:=Nat.two_pow_pos _
 refine ajx (N:=A*2^s) h0 aa aa aa hnorm (fun i _=>fB) (rH z1) z2 rfl fun q u s' hu hq hsum hlt hv=>dx ?_
 have hR:val (nl A+1) u=A%B*2^s:=by
  have h1:(A*2^s)%V=val (nl A+1) u:=by
   rw[<-hsum,Nat.mul_comm,Nat.mul_add_mod];exact Nat.mod_eq_of_lt hlt
  rw[<-h1,hV,Nat.mul_mod_mul_right]
 have hQ:val lq q=A/B:=by
  have h1:(A*2^s)/V=val lq q:=by
   rw[<-hsum,Nat.mul_comm,Nat.mul_add_div aa,Nat.div_eq_of_lt hlt];omega
  rw[<-h1,hV,Nat.mul_div_mul_right _ _ hS]
 have hRl:∀i,i<nl (val (nl A+1) u)->u i=aG (val (nl A+1) u) i:=fun i hi=>(ri hu (Nat.lt_of_lt_of_le hi (eP.2 (iL hu)))).symm
 refine aJ.lZ (nx:=9) hv h0 ah rfl kF ?_
 show aJ P c f168.ntmps [nD] _ _
 refine az.hole [1,0,1] ah (aJ.bU hT z8 hm 60 ou ahx ah ?_)
 simp only[ag.all,aC,lQ]
 refine⟨⟨jg hu,trivial,aa⟩,fun s' hv=>dx ?_⟩
 refine V5 (lu:=nl A+1) (u:=u) h0 hs aa rfl (eP.2 (iL hu)) hu hRl hv fun w s' hw hval hv=>dx ?_
 refine aJ.mono (Q:=Fin T f168 (pJ A B)) (fun e s' h=>by cases e<;>exact h) ?_
 refine aJ.CL hT jr hm 60 (nx:=9) hv h0 rfl kF Ud ah ah ?_
 simp only[ag.all,aC,Nat.add_zero,lQ]
 have hll:nl (val (nl A+1) u)<=nl A+1:=eP.2 (iL hu)
 refine⟨⟨jg hq,aa,jg fun i hi=>hw i aa,aa⟩,fG (by rw[hQ]),fG ?_,cE (by simp[hB0]),trivial⟩
 rw[if_neg hB0,hval,hR,Nat.mul_div_cancel _ hS]
theorem Xv {n m:Nat} {z y:Nat->Nat} (hz:∀i,i<n->z i<2^32) (hy:∀i,i<m->y i<2^32) (hn:n<2^40) (hm':m<2^40) (K:Nat) (pre:aI):
  aW P 168 K [.aq 1 n (aF z),.aq 1 m (aF y)] pre (aO (pJ (val n z) (val m y)) []):=by
 refine lP hT aaj rfl bh rfl (fun _ c h0=>?_) K pre
 have hk0:∀{nx:Nat} k x,c.k0 k=some x->k<nx:=lO h0
 have hA:nl (val n z)<=n:=eP.2 (iL hz)
 have hB:nl (val m y)<=m:=eP.2 (iL hy)
 refine az.hole pe ah (aJ.chunk 2 (aJ.bU hT kS hm 60 [0,1,4,5,6] Sh ah ?_))
 simp only[ag.all,aC,lQ]
 generalize val n z=A at*
 generalize val m y=B at*
 refine⟨⟨jg hz,aa,jg hy,aa⟩,fun s' hv=>dx ?_⟩
 refine aJ.chunk 1 (aJ.gL hT kS hm 60 (nx:=0) hv hk0 rfl trivial [0,1,4,5,6] XM ah ah ?_)
 simp only[ag.all,aC,beq_iff_eq,beq_eq_false_iff_ne,ne_eq,bI,bR,CS]
 have hnl0:nl B=0↔B=0:=⟨fun h=>by
  rcases Nat.eq_zero_or_pos B with h1|h1
  ·exact h1
  ·have:=jc.2 (show B≠0 by omega);omega,fun h=>by subst h;rfl⟩
 refine⟨fun hb s' hv=>?_,fun hb=>⟨⟨aa,aa⟩,fun hlt=>⟨aa,fun s' hv=>?_⟩,fun hge=>⟨fun h1=>?_,fun h1 s' hv=>dx ?_⟩⟩⟩
 ·have hB0:B=0:=hnl0.1 aa
  subst hB0
  refine gQ (gQ ?_)
  exact jn (us:=[.nil,.nil,.int .i64 3]) (.inr rfl) hv ah ⟨by simpa using mP,mP,cE (by simp),trivial⟩
 ·have hB0:B≠0:=fun h=>hb (by rw[hnl0.2 h];rfl)
  refine gQ (gQ ?_)
  refine jn (us:=[.nil,.mag A,.int .i64 0]) (.inr rfl) hv ah ⟨?_,fG ?_,cE (by simp[hB0]),trivial⟩
  ·rw[Nat.div_eq_of_lt hlt];exact mP
  ·rw[if_neg hB0,Nat.mod_eq_of_lt hlt]
 ·have h1':nl B=1:=aa
  have hB0:B≠0:=fun h=>hb (by rw[hnl0.2 h];rfl)
  have hl0:aG B 0=B:=by
   have:=iW (N:=B)
   rw[h1',val,val]at this
   simpa using this
  have hBlt:B<2^32:=by rw[<-hl0];exact fB
  have hmod:A%B<2^32:=Nat.lt_trans (Nat.mod_lt _ aa) hBlt
  simp only[Int.toNat_zero,hl0,bS]
  have hf:(fun i=>nth [AV.int .u32 ((A%B:Nat):Int)] (.int .u32 0) (i+0))=fun i=>aF (fun i=>if i=0 then A%B else 0) i:=by
   funext i
   cases i with
   |zero=>simp[nth,aF]
   |succ i=>simp[nth,aF]
  rw[hf]
  refine⟨⟨aa,aa,aa,aa⟩,⟨aa,jg (fun i hi=>by split<;>omega),aa⟩,fun s' hv=>gQ (gQ ?_)⟩
  refine jn (vs:=[.mag A,.mag B,.mag (A/B),.mag (A%B),.int .i64 0]) (os:=[]) (us:=[.mag (A/B),.mag (A%B),.int .i64 0]) (.inr rfl) (fC hv ?_ rfl) ah ⟨.refl _,fG (by rw[if_neg hB0]),cE (by simp[hB0]),trivial⟩
  simp[val,nth,numOf]
  rw[<-Int.natCast_emod,bS]
 have hB0:B≠0:=fun h=>hb (by rw[hnl0.2 h];rfl)
 have hn2:2<=nl B:=by have:=jc.2 hB0;omega
 rw[List.drop_drop]
 refine ad7 h0 aa hn2 aa hv fun s lq V s' hs hV hnV hnorm hlq hle=>dx ?_
 exact az.od hle (afN hk0 aa hB0 hs hV hn2 hnV hnorm hlq)
def EY (A n B m:Nat):eU:=aO (pJ A B) [n<2^40,m<2^40]
theorem QA:bp P (cD (jM EY)) 168:=
 cZ (xT fun _ _ _ _ K hz hy need=>Xv hz hy need.1 need.2 K [])
theorem TS:bu 167 f167:=bC func167
def GG:bE:=(168,cD (jM EY))::(181,Cb)::(182,cD (ni DL))::(170,Gg)::G1
abbrev sV:Code:=part (aK f167) [1,1,1]
theorem zS:bY P GG:=aM QA (aM IV (aM Tj (aM Rx jr)))
theorem ZG {n m:Nat} {z y:Nat->Nat}:aL T GG [] 60 [5,6] (before (aK f167) [1,1,0]) ⟨aZ 0 [.aq 1 n (aF z),.aq 1 m (aF y)],[],0⟩=
  let b:=val n fun i=>numOf (aF z i);let a:=val m fun i=>numOf (aF y i);some (ag.aj [fL n (aF z),n<2^62,nl b<2^40,fL m (aF y),m<2^62,nl a<2^40] (ag.leaf au.normal ([mag b,mag a],[]))):=ah
theorem adv {X Y:Nat}:aL T GG [23] 60 [5,6] [part (aK f167) [1,1,0,0,0]] ⟨aH [5,6] [.mag X,.mag Y],[],0⟩=
  some (ag.fork (decide ((↑(nl Y):Int)>2)) (ag.aj [nl X<2^40,nl Y<2^40] (ag.leaf au.normal ([mag Y,mag (if Y=0 then 0 else X%Y)],[]))) (ag.leaf (au.exit 0) ([mag X,mag Y],[]))):=ah
theorem Vq {X Y:Nat}:aL T GG [35,39] 60 [13,14,4] (before sV [1,1,1,0]) ⟨aH [5,6] [.mag X,.mag Y],[],0⟩=
  let b:=int .u64 (↑Y:Int);let a:=if Y=0 then 0 else X%Y;some (ag.fork ((↑(nl Y):Int)==0) (ag.leaf au.ret ([tuple [],tuple [],mag X],[])) (ag.fork (decide ((↑(nl X):Int)>2)) (ag.aj [nl X<2^40,nl Y<2^40] (ag.aj [nl Y<=2,nl a<=2] (ag.leaf au.normal ([b,int .u64 (↑a:Int),tuple []],[])))) (ag.aj [nl X<=2,nl Y<=2] (ag.leaf au.normal ([int .u64 (↑X:Int),b,tuple []],[]))))):=ah
theorem aiJ {x y:Nat}:aL T GG [54] 60 [13,14] [part sV [1,1,1,0,0,0]] ⟨aH [13,14] [.int .u64 x,.int .u64 y],[],0⟩=
  let a:=(↑y:Int);some (ag.fork (a !=(0:Int)) (ag.aj [a≠(0:Int)] (ag.leaf au.normal ([int .u64 a,int .u64 ((↑x:Int).tmod a)],[]))) (ag.leaf (au.exit 2) ([int .u64 (↑x:Int),int .u64 a],[]))):=ah
theorem SC {x y:Nat}:dc T GG [] 60 f167 (behind sV [1,1,1,0]) ⟨aH [13,14] [.int .u64 x,.int .u64 y],[],0⟩=
  some (ag.aj [(0:Int)<=(↑x:Int)/\(↑x:Int)<2^64] (ag.leaf au.ret [mag (↑x:Int).toNat])):=ah
theorem q9 {Y:Nat} (h:nl Y<=2):Y<2^64:=eP.1 h
theorem adq {n m:Nat} {z y:Nat->Nat} (hz:∀i,i<n->z i<2^32) (hy:∀i,i<m->y i<2^32) (hn:n<2^40) (hm':m<2^40) (K:Nat) (pre:aI):
  aW P 167 K [.aq 1 n (aF z),.aq 1 m (aF y)] pre (aO (.mag (Nat.gcd (val n z) (val m y))) []):=by
 refine lP hT TS rfl bh rfl (fun _ c h0=>?_) K pre
 have hk0:∀{nx:Nat} k x,c.k0 k=some x->k<nx:=lO h0
 have hA:nl (val n z)<=n:=eP.2 (iL hz)
 have hB:nl (val m y)<=m:=eP.2 (iL hy)
 refine az.hole [1,1,0] ah (aJ.bU hT zS hm 60 [5,6] ZG ah ?_)
 simp only[ag.all,aC,lQ]
 generalize val n z=A at*
 generalize val m y=B at*
 refine⟨⟨jg hz,aa,aa,jg hy,aa,aa⟩,fun s' hv=>dx ?_⟩
 refine az.jG (i:=0) (y:=part (aK f167) [1,1,0,0,0]) ah [5,6] 0 hk0 (fun p:Nat×Nat=>[.mag p.1,.mag p.2]) (fun _=>[]) (fun _=>rfl) (fun _=>trivial)
  (fun p=>Nat.gcd p.1 p.2=Nat.gcd A B/\nl p.1<2^40/\nl p.2<2^40) (fun p=>p.2) (A,B) hv ⟨rfl,by simp only;omega,by simp only;omega⟩ ?_
 rintro⟨X,Y⟩ ⟨hg,hX,hY⟩
 simp only at hg hX hY
 refine az.bU hT zS hm 60 [5,6] adv ah ?_
 simp only[ag.all,aC,bI,bR]
 have hstep:∀{X Y:Nat},Y≠0->Nat.gcd Y (X%Y)=Nat.gcd X Y:=fun {X Y} _=>by rw[Nat.gcd_comm X Y,Nat.gcd_rec Y X,Nat.gcd_comm]
 refine⟨fun hb=>⟨⟨hX,hY⟩,fun s' hv=>?_⟩,fun hb s' hv=>gR ?_⟩
 ·have hY0:Y≠0:=jc.1 aa
  have hlt:=Nat.mod_lt X (show 0<Y by omega)
  refine⟨(Y,X%Y),fC hv (by rw[if_neg hY0]) rfl,⟨by rw[<-hg];exact hstep hY0,hY,Nat.lt_of_le_of_lt (jz (Nat.le_of_lt hlt)) hY⟩,hlt⟩
 have hY2:nl Y<=2:=aa
 refine dx (aJ.lZ (nx:=0) hv hk0 ah rfl trivial ?_)
 show aJ P c f167.ntmps [sV] _ _
 refine az.hole [1,1,1,0] ah (aJ.bU hT zS hm 60 [13,14,4] Vq ah ?_)
 simp only[ag.all,aC,bI,bR,beq_iff_eq,beq_eq_false_iff_ne,ne_eq]
 have rest:∀{x y:Nat} {s':aP},x<2^64->y<2^64->Nat.gcd x y=Nat.gcd A B->bJ [13,14,4] s'=some ([.int .u64 (x:Nat),.int .u64 (y:Nat)]++[.tuple []],[])->
   az P c f167.ntmps (part sV [1,1,1,0]) s' (fW (fun s'=>aJ P c f167.ntmps (behind sV [1,1,1,0]) s' (fW (fun s'=>aJ P c f167.ntmps [] s' (Fin T f167 (.mag (Nat.gcd A B)))) (Fin T f167 (.mag (Nat.gcd A B)))))
    (fW (fun s'=>aJ P c f167.ntmps [] s' (Fin T f167 (.mag (Nat.gcd A B)))) (Fin T f167 (.mag (Nat.gcd A B))))):=by
  intro x y s' hx hy hg hv
  have hv:=lR (ls:=[13,14]) (l:=[4]) (vs:=[.int .u64 (x:Nat),.int .u64 (y:Nat)]) hv rfl rfl
  refine az.jG (i:=2) (y:=part sV [1,1,1,0,0,0]) ah [13,14] 0 hk0 (fun p:Nat×Nat=>[.int .u64 (p.1:Nat),.int .u64 (p.2:Nat)]) (fun _=>[]) (fun _=>rfl) (fun _=>trivial)
   (fun p=>Nat.gcd p.1 p.2=Nat.gcd A B/\p.1<2^64/\p.2<2^64) (fun p=>p.2) (x,y) hv ⟨hg,hx,hy⟩ ?_
  rintro⟨x,y⟩ ⟨hg,hx,hy⟩
  simp only at hg hx hy
  refine az.bU hT zS hm 60 [13,14] aiJ ah ?_
  simp only[ag.all,aC,bne_iff_ne,ne_eq,bne_eq_false_iff_eq]
  refine⟨fun hb=>⟨hb,fun s' hv=>?_⟩,fun hb s' hv=>gR ?_⟩
  ·have hy0:y≠0:=aa
   have hlt:=Nat.mod_lt x (show 0<y by omega)
   exact⟨(y,x%y),fC hv (by rw[<-Int.ofNat_tmod]) rfl,⟨by rw[<-hg];exact hstep hy0,hy,by simp only;omega⟩,hlt⟩
  ·have hy0:y=0:=aa
   subst hy0
   refine dx ?_
   refine aJ.mono (Q:=Fin T f167 (.mag (Nat.gcd A B))) (fun e s' h=>by cases e<;>exact h) ?_
   refine aJ.CL hT zS hm 60 (nx:=0) hv hk0 rfl trivial SC ah ah ⟨⟨aa,aa⟩,fG ?_⟩
   rw[bS,<-hg,Nat.gcd_zero_right]
 refine⟨fun hb s' hv=>gQ (gQ ?_),fun hb=>⟨fun h1=>⟨⟨hX,hY⟩,⟨aa,?_⟩,fun s' hv=>dx (rest (q9 hY2) ?_ ?_ (fC hv rfl rfl))⟩,fun h1=>⟨⟨aa,aa⟩,fun s' hv=>dx (rest (q9 aa) (q9 hY2) hg (fC hv rfl rfl))⟩⟩⟩
 ·have hY0:Y=0:=by
   rcases Nat.eq_zero_or_pos Y with h1|h1
   ·exact h1
   ·have:=jc.2 (show Y≠0 by omega);omega
  refine jn (us:=[.mag X]) (.inr rfl) hv ah (fG ?_)
  rw[<-hg,hY0,Nat.gcd_zero_right]
 all_goals
  have hY0:Y≠0:=jc.1 aa
  have hlt:=Nat.mod_lt X (show 0<Y by omega)
  rw[if_neg hY0]
 ·exact Nat.le_trans (jz (Nat.le_of_lt hlt)) hY2
 ·exact Nat.lt_trans hlt (q9 hY2)
 ·rw[<-hg];exact hstep hY0
def HB (A n B m:Nat):eU:=aO (.mag (Nat.gcd A B)) [n<2^40,m<2^40]
theorem Oo:bp P (cD (jM HB)) 167:=
 cZ (xT fun _ _ _ _ K hz hy need=>adq hz hy need.1 need.2 K [])
theorem agV:bu 159 f159:=bC func159
theorem ad0 {n:Nat} {z:Nat->Nat}:aL T [] [] 30 [0,3,4] (before (aK f159) [1,1,0,1]) ⟨aZ 0 [.aq 1 n (aF z)],[],0⟩=
  some (ag.leaf au.normal ([aq 1 n fun a=>int .u32 (↑(z a):Int),int .u64 (0:Int),int .i64 (i64.wrap ((↑n:Int)-1))],[])):=ah
theorem akj {n k v:Nat} {z:Nat->Nat}:aL T [] [9] 30 [0,3,4] [part (aK f159) [1,1,0,1,0,0]] ⟨aH [0,3,4] [.aq 1 n (aF z),.int .u64 v,.int .i64 ((k:Int)-1)],[],0⟩=
  let d:=aq 1 n fun a=>int .u32 (↑(z a):Int);let b:=(↑k:Int)-1;some (ag.fork (decide (b>=0)) (ag.aj [(0:Int)<=32,(0:Int)<=b/\b.toNat<n] (ag.leaf au.normal ([d,int .u64 (u64.wrap (↑(BitVec.ofInt u64.bits (u64.wrap ((↑v:Int)*2^min (Int.toNat (32:Int)) u64.bits))|||BitVec.ofInt u64.bits (u64.wrap (↑(z b.toNat):Int))).toNat:Int)),int .i64 (i64.wrap (b-1))],[]))) (ag.leaf (au.exit 0) ([d,int .u64 (↑v:Int),int .i64 b],[]))):=ah
theorem aiw {n k v:Nat} {z:Nat->Nat}:dc T [] [] 30 f159 (behind (aK f159) [1,1,0,1]) ⟨aH [0,3,4] [.aq 1 n (aF z),.int .u64 v,.int .i64 ((k:Int)-1)],[],0⟩=
  some (ag.leaf au.ret [int .u64 (↑v:Int)]):=ah
theorem afy {n:Nat} {z:Nat->Nat} (hz:∀i,i<n->z i<2^32) (hn:n<=2) (K:Nat) (pre:aI):aW P 159 K [.aq 1 n (aF z)] pre (aO (.int .u64 (val n z:Nat)) []):=by
 refine lP hT agV rfl bh rfl (fun _ c h0=>?_) K pre
 refine az.hole [1,1,0,1] ah (aJ.bU hT cJ hm 30 [0,3,4] ad0 ah ?_)
 intro s' hv
 have hv64:val n z<2^64:=by
  have h1:=iL hz
  have h2:2^(32*n)<=2^(32*2):=Nat.pow_le_pow_right aa aa
  omega
 refine az.jK (i:=0) (y:=part (aK f159) [1,1,0,1,0,0]) ah
  (fun p:Nat×Nat=>⟨aH [0,3,4] [.aq 1 n (aF z),.int .u64 (p.2:Nat),.int .i64 ((p.1:Nat)-1:Int)],[],0⟩)
  (fun p=>p.1<=n/\p.2*2^(32*p.1)+val p.1 z=val n z) (fun p=>p.1) (n,0)
  (fe [] hv h0 rfl ⟨aY,aY,⟨rfl,jb (wrap_i64 aa aa)⟩,trivial⟩ trivial) ⟨by simp,by simp⟩ ?_
 rintro⟨k,v⟩ ⟨hk,hval⟩
 simp only at hk hval
 refine az.bU hT cJ hm 30 [0,3,4] akj ah ?_
 simp only[ag.all,aC,bI,bR]
 refine⟨fun hb=>?_,fun hb s' hv=>?_⟩
 ·obtain⟨j,rfl⟩:∃j,k=j+1:=⟨k-1,aa⟩
  have e:(((j+1:Nat):Int)-1).toNat=j:=aa
  have hzj:=hz j aa
  have hv32:v<2^32:=by
   rcases Nat.lt_or_ge v (2^32)with h|h
   ·exact h
   ·have h1:2^32*2^(32*(j+1))<=v*2^(32*(j+1)):=Nat.mul_le_mul_right _ h
    have h2:2^32<=2^(32*(j+1)):=Nat.pow_le_pow_right aa aa
    have h3:2^32*2^32<=2^32*2^(32*(j+1)):=Nat.mul_le_mul_left _ h2
    omega
  rw[e]
  have gi:u64.wrap ((BitVec.ofInt u64.bits (u64.wrap ((v:Int)*2^min (Int.toNat 32) u64.bits))|||BitVec.ofInt u64.bits (u64.wrap (z j:Int))).toNat:Int)=
    ((v*4294967296+z j:Nat):Int):=by
   rw[yS,cR (x:=(z j:Int)) aa aa,cR (x:=(v:Int)*4294967296) aa aa]
   rw[show(v:Int)*4294967296=((v*2^32:Nat):Int) by omega,wY aa aa,uI hzj]
  refine⟨⟨aa,aa,aa⟩,fun s' hv=>⟨(j,v*4294967296+z j),fe [] hv h0 rfl ⟨aY,⟨rfl,jb gi⟩,⟨rfl,jb (by rw[wrap_i64 aa aa];simp only;omega)⟩,trivial⟩ trivial,
   ⟨by simp only;omega,KP hval⟩,by simp⟩⟩
 ·have hk0:k=0:=aa
  subst hk0
  have hval:v=val n z:=by simpa [val]using hval
  subst hval
  exact aJ.weak ah (fe (vs:=[.aq 1 n (aF z),.int .u64 (val n z:Nat),.int .i64 (((0:Nat):Int)-1)]) (ps:=[]) (nx:=0) [] hv h0 rfl ⟨aY,aY,aY,trivial⟩ trivial)
   (aJ.fin hT cJ hm 30 aiw ah (bf.refl _))
theorem afP:bp P (cD (ni DL)) 159:=
 cZ (xR fun _ _ K hz need=>afy hz need K [])
theorem aha:bu 179 f179:=bC func179
theorem ag6:bu 180 f180:=bC func180
theorem ab2 {x y:Nat}:aL T [] [] 60 [0,1] (before (aK f179) [1,0]) ⟨aZ 0 [.int .u64 x,.int .u64 y],[],0⟩=
  some (ag.leaf au.normal ([int .u64 (↑x:Int),int .u64 (↑y:Int)],[])):=ah
theorem VQ {x y:Nat}:aL T [] [6] 60 [0,1] [part (aK f179) [1,0,0,0]] ⟨aH [0,1] [.int .u64 x,.int .u64 y],[],0⟩=
  let a:=(↑y:Int);some (ag.fork (a !=(0:Int)) (ag.aj [a≠(0:Int)] (ag.leaf au.normal ([int .u64 a,int .u64 ((↑x:Int).tmod a)],[]))) (ag.leaf (au.exit 0) ([int .u64 (↑x:Int),int .u64 a],[]))):=ah
theorem SG {x y:Nat}:dc T [] [] 60 f179 (behind (aK f179) [1,0]) ⟨aH [0,1] [.int .u64 x,.int .u64 y],[],0⟩=
  some (ag.leaf au.ret [int .u64 (↑x:Int)]):=ah
theorem acw {s n l x:Nat} {z:Nat->Nat}:aL T [] [11] 60 [0,1,4] (before (aK f180) [1,1,1]) ⟨aZ 0 [.own 0 1 s n,.int .u64 x],[(0,⟨true,true,1,l,aF z⟩)],1⟩=
  let e:=int .u64 (↑x:Int);let d:=own 0 1 s n;let a:=Int.toNat (0:Int);let b:Nat×aA:=(0,aA.mk true true 1 l fun j=>if(j==a+s)=true then int .u32 (u32.wrap (↑x:Int))else aF z j);some (ag.aj [(0:Int)<=0/\a<n,a+s<l] (ag.aj [(0:Int)<=32] (ag.fork ((↑x:Int).fdiv ((2:Int)^min (Int.toNat (32:Int)) u64.bits)==0) (ag.leaf au.ret ([d,e,int .i64 (1:Int)],[b])) (ag.leaf au.normal ([d,e,int .i64 (0:Int)],[b]))))):=ah
theorem Se {s n l x:Nat} {z:Nat->Nat}:aL T [] [] 60 [0,1,4] [part (aK f180) [1,1,1]] ⟨aH [0,1,4] [.own 0 1 s n,.int .u64 x,.int .i64 0],[(0,⟨true,true,1,l,aF z⟩)],1⟩=
  let a:=Int.toNat (1:Int);some (ag.aj [(0:Int)<=32,(0:Int)<=1/\a<n,a+s<l] (ag.leaf au.ret ([own 0 1 s n,int .u64 (↑x:Int),int .i64 (2:Int)],[(0,aA.mk true true 1 l fun j=>if(j==a+s)=true then int .u32 (u32.wrap ((↑x:Int).fdiv ((2:Int)^min (Int.toNat (32:Int)) u64.bits)))else aF z j)]))):=ah
theorem TE {x y:Nat} (K:Nat) (pre:aI):aW P 179 K [.int .u64 x,.int .u64 y] pre (aO (.int .u64 (Nat.gcd x y:Nat)) []):=by
 refine lP hT aha rfl bh rfl (fun _ c h0=>?_) K pre
 have hk0:∀{nx:Nat} k x,c.k0 k=some x->k<nx:=lO h0
 refine az.hole [1,0] ah (aJ.bU hT cJ hm 60 [0,1] ab2 ah fun s' hv=>dx ?_)
 refine az.jG (i:=0) (y:=part (aK f179) [1,0,0,0]) ah [0,1] 0 hk0 (fun p:Nat×Nat=>[.int .u64 (p.1:Nat),.int .u64 (p.2:Nat)]) (fun _=>[]) (fun _=>rfl) (fun _=>trivial)
  (fun p=>Nat.gcd p.1 p.2=Nat.gcd x y) (fun p=>p.2) (x,y) hv rfl ?_
 rintro⟨m,n⟩ hg
 simp only at hg
 refine az.bU hT cJ hm 60 [0,1] VQ ah ?_
 simp only[ag.all,aC,bne_iff_ne,ne_eq,bne_eq_false_iff_eq]
 refine⟨fun hb=>⟨hb,fun s' hv=>?_⟩,fun hb s' hv=>gR (dx ?_)⟩
 ·have hlt:=Nat.mod_lt m (show 0<n by omega)
  refine⟨(n,m%n),fC hv (by rw[<-Int.ofNat_tmod]) rfl,?_,hlt⟩
  rw[<-hg,Nat.gcd_comm m n,Nat.gcd_rec n m,Nat.gcd_comm]
 ·refine aJ.CL hT cJ hm 60 (nx:=0) hv hk0 rfl trivial SG ah ah (cE ?_)
  have:n=0:=aa
  rw[<-hg,this,Nat.gcd_zero_right]
def OC:Spec:=cD fun l=>match l with
 |[.int .u64 x,.int .u64 y]=>some (aO (.int .u64 (Nat.gcd x.toNat y.toNat:Nat)) [0<=x,0<=y])
 |_=>none
theorem acz:bp P OC 179:=by
 refine cZ fun K args r hk hs _=>?_
 split at hs
 ·rename_i x y
  simp only[aB]at hs
  subst hs
  intro need
  obtain⟨h1,h2⟩:0<=x/\0<=y:=need
  obtain⟨a,rfl⟩:=Int.eq_ofNat_of_zero_le h1
  obtain⟨b,rfl⟩:=Int.eq_ofNat_of_zero_le h2
  exact TE K [] trivial
 ·simp at hs
def jF (z:Nat->Nat) (s x:Nat):Nat->Nat:=fun i=>if i=s then x%4294967296 else if i=s+1/\4294967296<=x then x/4294967296 else z i
def gU (x:Nat):Nat:=if x<4294967296 then 1 else 2
theorem agy {k s n l x:Nat} {z:Nat->Nat} {f:Nat->AV} (hx:x<2^64) (h1:gU x<=n) (hs:s+n<=l) (hf:∀i,i<l->f i=aF z i) (K:Nat):
  aW P 180 K [.own k 1 s n,.int .u64 x] [(k,⟨true,true,1,l,f⟩)] ⟨.int .i64 (gU x:Nat),[(k,⟨true,true,1,l,aF (jF z s x)⟩)],[]⟩:=by
 refine qQ hT ag6 (args0:=[.own 0 1 s n,.int .u64 x]) (pre0:=[(0,⟨true,true,1,l,aF z⟩)]) (nx:=1) [(0,k)] bh (by simp[jy]) ⟨⟨rfl,eR rfl rfl rfl⟩,aY,trivial⟩ ⟨⟨k,_,rfl,by simp[look],gZ rfl hf⟩,trivial⟩
  (fun a x h=>?_) (fun x o h=>?_) (fun _ c h0=>?_)
 ·simp only[bD,look]at h
  split at h
  ·simp only[aB]at h;subst h;exact⟨_,by simp[look];rfl⟩
  ·simp at h
 ·simp only[look]at h
  split at h
  ·rename_i he
   have:k=x:=by simpa using he
   subst this
   exact .inl ⟨_,by simp[look];rfl⟩
  ·simp at h
 have hk0:∀k x,c.k0 k=some x->k<1:=fun k x hk=>by
  have:=h0 k x hk
  simp only[bD,look]at this
  split at this
  ·rename_i h;simp at h;omega
  ·simp at this
 have key:∀{s':aP} {v:Int} {w:Nat->Nat},bJ [0,1,4] s'=some ([.own 0 1 s n,.int .u64 x,.int .i64 v],[(0,⟨true,true,1,l,aF w⟩)])->v=(gU x:Nat)->w=jF z s x->
   ∃τ,wm [(0,k)] K [(k,⟨true,true,1,l,f⟩)] τ/\(DZ T f180 τ [(k,⟨true,true,1,l,f⟩)] ⟨.int .i64 (gU x:Nat),[(k,⟨true,true,1,l,aF (jF z s x)⟩)],[]⟩ s'\/z9 T f180 τ [(k,⟨true,true,1,l,f⟩)] ⟨.int .i64 (gU x:Nat),[(k,⟨true,true,1,l,aF (jF z s x)⟩)],[]⟩ s'):=by
  intro s' v w hv hv1 hw
  refine⟨bD [(k,0)],yw,.inr (wg (vs:=[.own 0 1 s n,.int .u64 x,.int .i64 v]) (us:=[.int .i64 v]) (ws:=[.int .i64 (gU x:Nat)]) (os:=[(0,⟨true,true,1,l,aF w⟩)]) (ps:=[(k,⟨true,true,1,l,aF (jF z s x)⟩)]) hv ah ⟨⟨rfl,jb hv1⟩,trivial⟩ rfl (by simp[dI,kE,put]) ⟨⟨0,_,by simp[bD,look],rfl,gZ rfl fun i hi=>by rw[hw]⟩,trivial⟩)⟩
 have h12:gU x=1\/gU x=2:=by unfold gU;split<;>simp
 have hset1:(fun j=>if j=s then AV.int .u32 (u32.wrap (x:Int))else aF z j)=aF (cX z s (x%4294967296)):=by
  funext j;exact jC (by rw[lE]) j
 refine az.hole [1,1,1] ah (aJ.bU hT cJ hm 60 [0,1,4] acw ah ?_)
 simp only[ag.all,aC,beq_iff_eq,beq_eq_false_iff_ne,ne_eq,nY,Int.toNat_zero,Nat.zero_add,hset1]
 refine⟨⟨aa,aa⟩,aa,fun hb s' hv=>?_,fun hb s' hv=>dx ?_⟩
 ·have hlt:x<4294967296:=aa
  refine gQ ⟨.inr rfl,key hv (by unfold gU;rw[if_pos hlt];rfl) ?_⟩
  funext i
  unfold cX jF
  by_cases h:i=s
  ·simp[h]
  ·simp[h];omega
 ·have hge:4294967296<=x:=aa
  have h2:gU x=2:=by unfold gU;rw[if_neg aa]
  refine az.gL hT cJ hm 60 (nx:=1) hv hk0 rfl ⟨⟨aa,fun _ _=>rfl⟩,trivial⟩ [0,1,4] Se ah ?_
  simp only[ag.all,aC,beq_iff_eq,beq_eq_false_iff_ne,ne_eq,nY,show Int.toNat 1=1 from rfl]
  refine⟨⟨aa,aa,aa⟩,fun s' hv=>?_⟩
  have hset2:(fun j=>if j=1+s then AV.int .u32 (u32.wrap ((x:Int)/4294967296))else aF (cX z s (x%4294967296)) j)=aF (cX (cX z s (x%4294967296)) (1+s) (x/4294967296)):=by
   funext j;exact jC (by rw[wrap_u32 aa aa];omega) j
  rw[hset2]at hv
  refine gQ ⟨.inr rfl,key hv (by rw[h2];rfl) ?_⟩
  funext i
  unfold cX jF
  by_cases h:i=s
  ·simp[h]
  ·by_cases h':i=1+s
   ·simp[h',hge,Nat.add_comm]
   ·simp[h,h'];omega
def I6:Spec:=fun _ args pre=>match args,pre with
 |[.own k es s n,.int .u64 x],[(k',o)]=>if k==k'&&es==1&&o.row&&o.wr&&o.es==1 then some ⟨.int .i64 (gU x.toNat:Nat),[(k,⟨true,true,1,o.len,aF (jF (fun i=>numOf (o.f i)) s x.toNat)⟩)],[fL o.len o.f,0<=x/\x<2^64,gU x.toNat<=n,s+n<=o.len]⟩else none
 |_,_=>none
theorem aah:bp P I6 180:=by
 intro K args pre r hs
 unfold I6 at hs
 split at hs
 ·rename_i k es s n x k' o
  split at hs
  ·rename_i hc
   simp only[Bool.and_eq_true,beq_iff_eq]at hc
   obtain⟨⟨⟨⟨rfl,rfl⟩,h4⟩,h5⟩,h6⟩:=hc
   simp only[aB]at hs
   subst hs
   intro need
   obtain⟨h1,⟨h2,h2'⟩,h3,h7⟩:fL o.len o.f/\(0<=x/\x<2^64)/\gU x.toNat<=n/\s+n<=o.len:=need
   obtain⟨row,wr,es,len,f⟩:=o
   simp only at h1 h4 h5 h6 h7
   subst h4 h5 h6
   obtain⟨x,rfl⟩:=Int.eq_ofNat_of_zero_le h2
   refine agy (z:=fun i=>numOf (f i)) aa h3 h7 (fun i hi=>?_) K trivial
   obtain⟨z,g1,g2⟩:=h1 i hi
   simp[g2,numOf,aF]
  ·simp at hs
 ·simp at hs
def Ob:Spec:=cD fun l=>match l with
 |[.int .u64 x,.int .u64 y,.int .u64 z]=>some (aO (.tuple [.int .u64 ((x+y+z)%18446744073709551616),.int .u64 ((x+y+z)/18446744073709551616)]) [0<=x,0<=y,0<=z/\z<=1])
 |_=>none
theorem R7:bp P Ob 177:=by
 refine cZ fun K args r hk hs _=>?_
 split at hs
 ·rename_i x y z
  simp only[aB]at hs
  subst hs
  intro need
  obtain⟨h1,h2,h3,h4⟩:0<=x/\0<=y/\0<=z/\z<=1:=need
  refine⟨fun k o h=>by simp[look]at h,fun c D D' β w vs hw0 hMw hrel hD hK hv=>.inr ?_⟩
  match vs,hv with
  |[a,b,d],hv=>
   obtain⟨ha,hb,hd,_⟩:=hv
   have ha:=(ha.cr).int
   have hb:=(hb.cr).int
   have hd:=(hd.cr).int
   subst ha hb hd
   refine⟨.tuple #[.int .u64 ((x+y+z)%18446744073709551616),.int .u64 ((x+y+z)/18446744073709551616)],?_,β,?_,ek.refl _ _ _,[_,_],rfl,.cT (.int .nil) rfl,.cT (.int .nil) rfl,trivial⟩
   ·rw[run_callFunc_extern (e:=add64Entry) func177 ah ah ah (by rfl)]
    rw[run_add64 x y z h1 h2 h3 h4]
    rfl
   ·exact hrel.nh hD
 ·simp at hs
theorem XX:bu 165 f165:=bC func165
theorem YG:bu 132 f132:=bC func132
def GS:bE:=[(179,OC),(180,I6)]
theorem adC {b:Bool} {n d:Nat}:cy T GS [13,35] 60 f165 (aK f165) ⟨aZ 0 [.bool b,.int .u64 n,.int .u64 d],[],0⟩=
  let j:=(↑n:Int);let k:=mag 0;let q:=int .u32 (0:Int);let h:=Int.toNat (0:Int);let f:=0<1;let o:=Int.toNat (4:Int);let a:=(↑o:Int);let t:=numOf q;let s:=(↑(j.toNat.gcd (↑d:Int).toNat):Int);let u:=u64.wrap (j.tdiv s);let m:=u64.wrap ((↑d:Int).tdiv s);let p:=u.toNat;let e:=(↑(gU p):Int);let l:=(0:Int)<=e;let g:=0+e.toNat;let r:=i64.wrap (e+(↑(gU m.toNat):Int));some (ag.fork (j==0) (ag.aj [f] (ag.aj [f] (ag.leaf au.ret [agg [AV.bool false,k,k]]))) (ag.aj [(0:Int)<=j,(0:Int)<=(↑d:Int)] (ag.aj [s≠(0:Int),s≠(0:Int)] (ag.aj [(0:Int)<=4/\(4:Int)<=4/\(4:Int)<=2^47/\(4:Int)*(↑(4:Nat):Int)<=2^47] (ag.aj [fL o fun x=>q,(0:Int)<=u/\u<2^64,gU p<=o,(0:Nat)+o<=o] (ag.aj [(0:Int)<=0/\l/\e<=e/\e<=a,f] (ag.fork (decide (m>1)) (ag.aj [l/\e<=a/\a<=a/\a<=a,fL o (aF (jF (fun i=>t) 0 p)),(0:Int)<=m/\m<2^64,gU m.toNat<=a.toNat-e.toNat,g+(a.toNat-e.toNat)<=o] (ag.aj [l/\e<=r/\r<=r/\r<=a,f] (ag.aj [f,f] (ag.aj [f] (ag.leaf au.ret [agg [AV.bool b,aq 1 (e.toNat-h) fun i=>int .u32 (↑(jF (fun i=>numOf (aF (jF (fun i=>t) 0 p) i)) g m.toNat (i+((0:Nat)+h))):Int),aq 1 (r.toNat-e.toNat) fun i=>int .u32 (↑(jF (fun i=>numOf (aF (jF (fun i=>t) 0 p) i)) g m.toNat (i+g)):Int)]]))))) (ag.aj [f,f] (ag.aj [f] (ag.leaf au.ret [agg [AV.bool b,aq 1 (e.toNat-h) fun i=>int .u32 (↑(jF (fun i=>t) 0 p (i+((0:Nat)+h))):Int),k]])))))))))):=ah
theorem akn:cy T [] [] 60 f132 (aK f132) ⟨[],[],0⟩=
  some (ag.aj [(1:Nat)*1<=2^24] (ag.leaf au.ret [aq 1 1 fun i=>nth [int .u32 (1:Int)] (int .u32 (0:Int)) (i+0)])):=ah
theorem ac3:bY P GS:=aM acz (aM aah cJ)
theorem Gh {x:Nat} (h0:x≠0) (hx:x<2^64):nl x=gU x:=by
 have h1:=jc.2 h0
 have h2:nl x<=2:=eP.2 hx
 unfold gU
 split
 ·have:nl x<=1:=eP.2 aa
  omega
 ·have:¬nl x<=1:=by rw[eP];omega
  omega
theorem Ff {z:Nat->Nat} {s x i:Nat} (hx:x<2^64) (hi:i<gU x):jF z s x (i+s)=aG x i:=by
 unfold gU at hi
 unfold jF aG
 by_cases h:i=0
 ·subst h;simp
 ·have h1:i=1:=by split at hi<;>omega
  subst h1
  have h2:4294967296<=x:=by split at hi<;>omega
  rw[if_neg aa,if_pos ⟨aa,h2⟩]
  simp only[Nat.mul_one]
  exact(Nat.mod_eq_of_lt aa).symm
theorem aen {z:Nat->Nat} {s x i:Nat} (hi:i<s):jF z s x i=z i:=by
 unfold jF
 rw[if_neg aa,if_neg aa]
theorem ajh {z:Nat->Nat} {s x n:Nat} (hx:x<2^64) (hz:∀i,i<n->z i<2^32):∀i,i<n->jF z s x i<2^32:=fun i hi=>by
 unfold jF
 have:=hz i hi
 split
 ·omega
 ·split<;>omega
theorem S2 {b:Bool} {n d:Nat} (hn:n<2^64) (hd:d<2^64) (hd0:d≠0) (K:Nat) (pre:aI):aW P 165 K [.bool b,.int .u64 n,.int .u64 d] pre (aO (.rat (sQ b n d) (eJ (sQ b n d))) []):=by
 refine cB hT ac3 hm XX rfl bh rfl 60 adC (fun _=>?_) K pre
 obtain⟨g,hg⟩:∃g,g=Nat.gcd n d:=⟨_,rfl⟩
 simp only[bS,<-hg,show Int.toNat 4=4 from rfl,Int.toNat_zero,Nat.zero_add,Nat.add_zero,Nat.sub_zero]
 have hg0:0<g:=by rw[hg];exact Nat.gcd_pos_of_pos_right _ aa
 have hgn:g∣n:=by rw[hg];exact Nat.gcd_dvd_left _ _
 have hgd:g∣d:=by rw[hg];exact Nat.gcd_dvd_right _ _
 have hN:n/g<2^64:=Nat.lt_of_le_of_lt (Nat.div_le_self _ _) hn
 have hD:d/g<2^64:=Nat.lt_of_le_of_lt (Nat.div_le_self _ _) hd
 have hD0:0<d/g:=Nat.div_pos (Nat.le_of_dvd aa hgd) hg0
 have hN0:n≠0->0<n/g:=fun h=>Nat.div_pos (Nat.le_of_dvd aa hgn) hg0
 have e1:u64.wrap ((n:Int).tdiv (g:Int))=((n/g:Nat):Int):=by
  rw[<-Int.ofNat_tdiv,Ao,Nat.mod_eq_of_lt hN]
 have e2:u64.wrap ((d:Int).tdiv (g:Int))=((d/g:Nat):Int):=by
  rw[<-Int.ofNat_tdiv,Ao,Nat.mod_eq_of_lt hD]
 rw[e1,e2]
 clear e1 e2
 have f1:n/g=n/Nat.gcd n d:=by rw[hg]
 have f2:d/g=d/Nat.gcd n d:=by rw[hg]
 generalize n/g=N at*
 generalize d/g=D at*
 simp only[bS]
 have hnl:∀x,gU x=1\/gU x=2:=fun x=>by unfold gU;split<;>simp
 have l1:=hnl N
 have l2:=hnl D
 have w1:i64.wrap ((gU N:Int)+(gU D:Int))=((gU N+gU D:Nat):Int):=by rw[wrap_i64 aa aa];omega
 rw[w1]
 simp only[ag.all,aC,beq_iff_eq,beq_eq_false_iff_ne,ne_eq,bI,bR,bS]
 have hsz:Sz (sQ b n d) (eJ (sQ b n d)):=AL
 refine⟨fun hb=>⟨aa,aa,?_⟩,fun hb=>⟨⟨aa,aa⟩,⟨aa,aa⟩,aa,⟨?_,aa,aa,aa⟩,⟨aa,aa⟩,fun hc=>⟨⟨aa,?_,aa,aa,aa⟩,⟨aa,aa⟩,⟨aa,aa⟩,aa,?_⟩,fun hc=>⟨⟨aa,aa⟩,aa,?_⟩⟩⟩
 ·have hn0:n=0:=aa
  have:sQ b n d=0:=by rw[hn0,F3]
  rw[this]
  exact p8
 ·exact fun i hi=>⟨0,aa,rfl⟩
 ·refine jg (ajh hN fun i hi=>?_)
  simp[numOf]
 ·have hn0:n≠0:=aa
  have hN0:=hN0 hn0
  refine bf.trans (oe (vs:=[.bool b,.mag N,.mag D]) ⟨.refl _,l9 (Gh aa hN) fun i hi=>?_,l9 ?_ fun i hi=>?_,trivial⟩) (wA hn0 hd0 f1 ?_ hsz)
  ·show aF _ _=_
   unfold aF
   rw[aen hi,<-Ff (s:=0) (z:=fun i=>numOf (AV.int .u32 0)) hN hi]
   rfl
  ·rw[Gh aa hD];omega
  ·show aF _ _=_
   unfold aF
   rw[Ff hD aa]
  ·rw[<-f2,if_neg aa]
 ·have hn0:n≠0:=aa
  have hN0:=hN0 hn0
  refine bf.trans (oe (vs:=[.bool b,.mag N,.mag 0]) ⟨.refl _,l9 (Gh aa hN) fun i hi=>?_,.refl _,trivial⟩) (wA hn0 hd0 f1 ?_ hsz)
  ·show aF _ _=_
   unfold aF
   rw[<-Ff (s:=0) (z:=fun i=>numOf (AV.int .u32 0)) hN hi]
   rfl
  ·rw[<-f2,if_pos aa]
def Hg:Spec:=cD fun l=>match l with
 |[.bool b,.int .u64 n,.int .u64 d]=>some (aO (.rat (sQ b n.toNat d.toNat) (eJ (sQ b n.toNat d.toNat))) [0<=n/\n<2^64,0<d/\d<2^64])
 |_=>none
theorem KW:bp P Hg 165:=by
 refine cZ fun K args r hk hs _=>?_
 split at hs
 ·rename_i b n d
  simp only[aB]at hs
  subst hs
  intro need
  obtain⟨⟨h1,h2⟩,h3,h4⟩:(0<=n/\n<2^64)/\0<d/\d<2^64:=need
  obtain⟨n,rfl⟩:=Int.eq_ofNat_of_zero_le h1
  obtain⟨d,rfl⟩:=Int.eq_ofNat_of_zero_le (Int.le_of_lt h3)
  exact S2 aa aa aa K [] trivial
 ·simp at hs
theorem YT (K:Nat) (pre:aI):aW P 132 K [] pre (aO (.mag 1) []):=by
 refine cB (T:=T) hT cJ hm YG rfl bh rfl 60 akn (fun _=>?_) K pre
 refine⟨by simp[aC],l9 (by decide) fun i hi=>?_⟩
 have:i=0:=aa
 subst this
 rfl
def G6:Spec:=cD fun l=>match l with
 |[]=>some (aO (.mag 1) [])
 |_=>none
theorem L4:bp P G6 132:=by
 refine cZ fun K args r hk hs _=>?_
 split at hs
 ·simp only[aB]at hs
  subst hs
  exact YT K []
 ·simp at hs
theorem aar:bu 120 f120:=bC func120
theorem Wq:bu 116 f116:=bC func116
theorem U5:bu 133 f133:=bC func133
theorem ajZ:bu 110 f110:=bC func110
theorem YP:bu 65 f65:=bC func65
theorem ah1:bu 166 f166:=bC func166
theorem Z4:bu 134 f134:=bC func134
def GR:bE:=(126,cD (ni F4))::(159,cD (ni DL))::(165,Hg)::(167,cD (jM HB))::(168,cD (jM EY))::(169,cD (jM FG))::(132,G6)::(117,IY)::(181,Cb)::(170,Gg)::[]
theorem pL:bY P GR:=aM La (aM afP (aM KW (aM Oo (aM QA (aM Ol (aM L4 (aM Rl (aM IV (aM Rx cJ)))))))))
theorem aef {q:Rat} {n:Nat}:cy T GR [6] 60 f120 (aK f120) ⟨aZ 0 [.rat q n],[],0⟩=
  let a:=if q.den=1 then 0 else q.den;some (ag.aj [(0:Nat)<1] (ag.fork ((↑(nl a):Int)==0) (ag.leaf au.ret [mag 1]) (ag.aj [(0:Nat)<1] (ag.leaf au.ret [mag a])))):=ah
theorem agc {q:Rat} {n:Nat}:cy T GR [9,14,18] 60 f116 (aK f116) ⟨aZ 0 [.rat q n],[],0⟩=
  let d:=int .u64 (0:Int);let e:=q.num.natAbs;let a:=0<1;let f:=if q.den=1 then 0 else q.den;let b:=int .u64 (↑e:Int);let k:=(↑(nl f):Int);let j:=u64.wrap (↑(aG f (Int.toNat (0:Int))):Int);let i:ag (List AV):=ag.leaf au.ret [d,d,AV.bool false];let l:=(↑(nl e):Int);let g:=decide (l>1);let h:ag (List AV):=ag.aj [a] (ag.fork (k==1) (ag.aj [a,(0:Int)<=0/\Int.toNat (0:Int)<nl f] (ag.aj [a,nl e<=2] (ag.leaf au.ret [b,int .u64 j,AV.bool (j !=(0:Int))]))) (ag.aj [a,nl e<=2] (ag.leaf au.ret [b,int .u64 (1:Int),AV.bool true])));some (ag.fork g (ag.aj [a,g=true] (ag.fork true i h)) (ag.aj [a,g=false,a] (ag.fork (bif false then true else decide (k>1)) i h))):=ah
theorem aew {q r:Rat} {n m:Nat}:cy T GR [10,17] 60 f110 (aK f110) ⟨aZ 0 [.rat q n,.rat r m],[],0⟩=
  let h:=q.num.natAbs;let g:=r.num.natAbs;let b:=2^40;let e:=decide (q<0)==decide (r<0);let j:=if q.den=1 then 0 else q.den;let i:=if r.den=1 then 0 else r.den;let a:=0<1;let d:=[a,a,nl j<b,nl i<b];let k:ag (List AV):=ag.leaf au.ret [AV.bool (bif true then decide (j=i)else false)];let f:=bif true then decide (h=g)else false;some (ag.fork e (ag.fork f (ag.aj (a::a::(e=true)::a::a::(nl h<b)::(nl g<b)::(f=true)::d) k) (ag.aj [a,a,e=true,a,a,nl h<b,nl g<b,f=false] (ag.leaf au.ret [AV.bool false]))) (ag.fork false (ag.aj (a::a::(e=false)::(false=true)::d) k) (ag.aj [a,a,e=false,false=false] (ag.leaf au.ret [AV.bool false])))):=ah
theorem aap {q:Rat} {n:Nat}:cy T GR [3,8] 60 f65 (aK f65) ⟨aZ 0 [.rat q n],[],0⟩=
  some (ag.aj [(0:Nat)<1,nl q.num.natAbs<2^40] (ag.fork ((↑(ck q.num.natAbs):Int)==0) (ag.leaf au.ret [int .i64 (0:Int)]) (ag.aj [(0:Nat)<1] (ag.fork (decide (q<0)) (ag.leaf au.ret [int .i64 (-1:Int)]) (ag.leaf au.ret [int .i64 (1:Int)]))))):=ah
theorem Xg {q:Rat} {n:Nat}:cy T GR [] 60 f166 (aK f166) ⟨aZ 0 [.rat q n],[],0⟩=
  let b:=if q.den=1 then 0 else q.den;let a:=0<1;some (ag.aj [a,a,nl q.num.natAbs<2^40,a,nl b<2^40,a] (ag.aj [a] (ag.leaf au.ret [agg [AV.bool (decide (q<0)),mag q.num.natAbs,mag b]]))):=ah
theorem abT {n:Int}:cy T GR [4] 60 f134 (aK f134) ⟨aZ 0 [.int .i64 n],[],0⟩=
  let b:=i64.wrap ((0:Int)-n);let a:=u64.wrap (if n<b then b else n);some (ag.fork (n==(-9223372036854775808:Int)) (ag.aj [(0:Int)<=9223372036854775808/\(9223372036854775808:Int)<2^64] (ag.leaf au.ret [mag 9223372036854775808])) (ag.aj [(0:Int)<=a/\a<2^64] (ag.leaf au.ret [mag a.toNat]))):=ah
abbrev lX:List Nat:=[0,1,2,6]
abbrev r7 (b:Bool) (N D:Nat):List AV:=[.bool b,.mag N,.mag D,.ptr 0 0 3 0 []]
abbrev uc:aI:=[(0,⟨false,true,3,1,fun _=>.rat 0 1⟩)]
theorem V9 {b:Bool} {N D:Nat}:aL T GR [11,15] 60 lX ((before (aK f133) [1,1,1,1]).take 2) ⟨aZ 0 [.bool b,.mag N,.mag D],[],0⟩=
  let e:=2^40;let d:=rat 0 1;let a:=(↑(ck N):Int)==0;let h:=[AV.bool b,mag N,mag D,ptr 0 0 3 0 []];let g:ag (List AV×aI):=ag.leaf au.normal (h,[(0,aA.mk false true 3 1 fun x=>d)]);let f:ag (List AV×aI):=ag.aj [(0:Nat)<1] (ag.leaf au.ret (h,[(0,aA.mk false true 3 1 fun j=>if(j==0)=true then eE (agg d.kids)else d)]));some (ag.fork a (ag.aj [nl N<e,a=true] (ag.fork true f g)) (ag.aj [nl N<e,a=false,nl D<e] (ag.fork (bif false then true else(↑(ck D):Int)==0) f g))):=ah
theorem Mp {b:Bool} {N D:Nat}:pK T f133 .ret ⟨aH lX (r7 b N D),[(0,⟨false,true,3,1,fun j=>if j=0 then eE (.agg (AV.kids (.rat 0 1)))else .rat 0 1⟩)],1⟩=
  some (ag.aj [(0:Nat)<1] (ag.leaf au.ret [agg [AV.bool false,mag 0,mag 0]])):=ah
theorem WU {b:Bool} {N D:Nat} {q:Rat} {k:Nat}:pK T f133 .ret ⟨aH lX (r7 b N D),[(0,⟨false,true,3,1,fun j=>if j=0 then eE (.rat q k)else .rat 0 1⟩)],1⟩=
  some (ag.aj [(0:Nat)<1] (ag.leaf au.ret [rat q k])):=ah
theorem ae5 {b:Bool} {N D:Nat}:aL T GR [20,24] 60 lX (((before (aK f133) [1,1,1,1]).drop 2).take 1) ⟨aH lX (r7 b N D),uc,1⟩=
  let h:=rat 0 1;let g:=sQ b (↑N:Int).toNat (↑D:Int).toNat;let a:=decide ((↑(nl N):Int)<=2);let f:=[AV.bool b,mag N,mag D,ptr 0 0 3 0 []];let e:ag (List AV×aI):=ag.leaf au.normal (f,[(0,aA.mk false true 3 1 fun x=>h)]);let d:ag (List AV×aI):=ag.aj [nl N<=2,nl D<=2,(0:Int)<=(↑N:Int)/\(↑N:Int)<2^64,(0:Int)<(↑D:Int)/\(↑D:Int)<2^64,(0:Nat)<1] (ag.leaf au.ret (f,[(0,aA.mk false true 3 1 fun j=>if(j==0)=true then eE (rat g (eJ g))else h)]));some (ag.fork a (ag.aj [a=true] (ag.fork (bif true then decide ((↑(nl D):Int)<=2)else false) d e)) (ag.aj [a=false] (ag.fork false d e))):=ah
theorem agR {b:Bool} {N D:Nat}:aL T GR [36] 60 lX ((before (aK f133) [1,1,1,1]).drop (2+1)) ⟨aH lX (r7 b N D),uc,1⟩=
  let g:=(↑(ck (N.gcd D)):Int);let f:=ptr 0 0 3 0 [];let e:Nat×aA:=(0,aA.mk false true 3 1 fun x=>rat 0 1);let a:=2^40;let d:=nl (N.gcd D)<a;some (ag.aj [nl N<a,nl D<a] (ag.aj [d] (ag.fork (decide (g>1)) (ag.aj [nl N<a,d] (ag.aj [nl D<a,d] (ag.leaf au.normal ([AV.bool b,mag (N/N.gcd D),mag (D/N.gcd D),f],[e])))) (ag.leaf au.normal ([AV.bool b,mag N,mag D,f],[e]))))):=ah
theorem ahv {b:Bool} {N D:Nat}:dc T GR [58,63] 60 f133 [part (aK f133) [1,1,1,1]] ⟨aH lX (r7 b N D),uc,1⟩=
  let e:=D+0;let d:=[(0:Nat)<1];let a:=2^40;let f:=(↑(nl e):Int)==1;let h:ag (List AV):=ag.aj d (ag.aj d (ag.leaf au.ret [agg [AV.bool b,mag (N+0),nil]]));let g:ag (List AV):=ag.aj d (ag.aj d (ag.leaf au.ret [agg [AV.bool b,mag (N+0),mag e]]));some (ag.aj [nl N<a,(0:Nat)<a,nl D<a,(0:Nat)<a] (ag.fork f (ag.aj [f=true,(0:Int)<=0/\Int.toNat (0:Int)<nl e] (ag.fork (bif true then(↑(aG e (Int.toNat (0:Int))):Int)==1 else false) h g)) (ag.aj [f=false] (ag.fork false h g)))):=ah
theorem kU {a b v:Bool} (h:(bif true then a else b)=v):a=v:=h
theorem FW {N:Nat}:ck N=0↔N=0:=by unfold ck;split<;>simp_all
theorem Ut {N:Nat}:ck N<=1↔N<=1:=by rw[kJ];omega
theorem lz {N:Nat}:nl N=0↔N=0:=by
 constructor
 ·intro h
  rcases Nat.eq_zero_or_pos N with h1|h1
  ·exact h1
  ·have:=jc.2 (show N≠0 by omega);omega
 ·intro h;subst h;rfl
theorem V6 {b:Bool} {n:Nat}:sQ b n 0=0:=by unfold sQ;simp
theorem LF {b:Bool} {x:Nat}:bf (.agg [.bool b,.mag x,.nil]) (.agg [.bool b,.mag x,.mag 0]):=oe ⟨.refl _,.refl _,mP,trivial⟩
theorem ajS {b:Bool} {N D:Nat} (hN:nl N<2^40) (hD:nl D<2^40) (K:Nat) (pre:aI):aW P 133 K [.bool b,.mag N,.mag D] pre (aO (.rat (sQ b N D) (eJ (sQ b N D))) []):=by
 refine jj hT U5 rfl bh rfl (fun _ c h0=>?_) K pre
 have hO:∀{v:AV},keys v=[]->jW 1 [(0,(⟨false,true,3,1,fun j=>if j=0 then v else .rat 0 1⟩:aA))]:=fun h=>⟨⟨aa,fun i _=>by show keys (if i=0 then _ else _)=[];split;exact h;rfl⟩,trivial⟩
 have hO':jW 1 uc:=⟨⟨aa,fun _ _=>rfl⟩,trivial⟩
 have hz:sQ b N D=0->bf (.agg [.bool false,.mag 0,.mag 0]) (.rat (sQ b N D) (eJ (sQ b N D))):=fun h=>by
  rw[h];exact p8
 refine az.hole [1,1,1,1] ah (aJ.chunk 2 (aJ.bU hT pL hm 60 lX V9 ah ?_))
 simp only[ag.all,aC,beq_iff_eq,beq_eq_false_iff_ne,ne_eq]
 -- behind the first questions
 have rest:∀{s':aP},N≠0->D≠0->bJ lX s'=some (r7 b N D,uc)->
   aJ P c f133.ntmps ((before (aK f133) [1,1,1,1]).drop 2) s' (fW (fun s'=>az P c f133.ntmps (part (aK f133) [1,1,1,1]) s' (fW (fun s'=>aJ P c f133.ntmps (behind (aK f133) [1,1,1,1]) s' (gX c (Fin T f133 (.rat (sQ b N D) (eJ (sQ b N D)))))) (gX c (Fin T f133 (.rat (sQ b N D) (eJ (sQ b N D)))))))
    (gX c (Fin T f133 (.rat (sQ b N D) (eJ (sQ b N D)))))):=by
  intro s' hN0 hD0 hv
  have last:∀{s':aP} {X Y:Nat},nl X<2^40->nl Y<2^40->X=N/Nat.gcd N D->Y=D/Nat.gcd N D->bJ lX s'=some (r7 b X Y,uc)->
    az P c f133.ntmps (part (aK f133) [1,1,1,1]) s' (fW (fun s'=>aJ P c f133.ntmps (behind (aK f133) [1,1,1,1]) s' (gX c (Fin T f133 (.rat (sQ b N D) (eJ (sQ b N D)))))) (gX c (Fin T f133 (.rat (sQ b N D) (eJ (sQ b N D)))))):=by
   intro s' X Y hX hY eX eY hv
   refine az.mono (Q:=fW (fun s'=>aJ P c f133.ntmps [] s' (gX c (Fin T f133 (.rat (sQ b N D) (eJ (sQ b N D)))))) (gX c (Fin T f133 (.rat (sQ b N D) (eJ (sQ b N D)))))) ?_ fun e s' h=>by cases e<;>exact h
   refine aJ.mw (l:=[part (aK f133) [1,1,1,1]]) hT pL hm 60 hv (h0 _) rfl hO' ahv ah rfl ?_
   simp only[ag.all,aC,beq_iff_eq,beq_eq_false_iff_ne,ne_eq,Nat.add_zero,Int.toNat_zero]
   have hY0:Y≠0:=by rw[eY];exact Nat.pos_iff_ne_zero.1 (Nat.div_pos (Nat.le_of_dvd aa (Nat.gcd_dvd_right _ _)) (Nat.gcd_pos_of_pos_left _ aa))
   have h1:Y≠1->bf (.agg [.bool b,.mag X,.mag Y]) (.rat (sQ b N D) (eJ (sQ b N D))):=fun h=>wA hN0 hD0 eX (by rw[<-eY,if_neg h]) AL
   have h2:Y=1->bf (.agg [.bool b,.mag X,.nil]) (.rat (sQ b N D) (eJ (sQ b N D))):=fun h=>LF.trans (wA hN0 hD0 eX (by rw[<-eY,if_pos h]) AL)
   have hl:nl Y=1->aG Y 0=Y:=fun h=>by
    have:=iW (N:=Y)
    rw[h,val,val]at this
    simpa using this
   refine⟨⟨hX,aa,hY,aa⟩,fun hb=>⟨⟨hb,aa,aa⟩,fun hc=>⟨aa,aa,h2 ?_⟩,fun hc=>⟨aa,aa,h1 ?_⟩⟩,fun hb=>⟨hb,fun h=>by simp at h,fun _=>⟨aa,aa,h1 ?_⟩⟩⟩
   ·have:=kU hc
    rw[hl aa]at this
    have:=eq_of_beq this
    omega
   ·have:=kU hc
    rw[hl aa]at this
    intro h
    rw[h]at this
    simp at this
   ·intro h
    rw[h]at hb
    exact hb (by decide)
  refine aJ.chunk 1 (aJ.gL hT pL hm 60 hv (h0 _) rfl hO' lX ae5 ah rfl ?_)
  simp only[ag.all,aC,bI,bR,bS,beq_iff_eq]
  have long:∀{s':aP},bJ lX s'=some (r7 b N D,uc)->aJ P c f133.ntmps (((before (aK f133) [1,1,1,1]).drop 2).drop 1) s' (fW (fun s'=>az P c f133.ntmps (part (aK f133) [1,1,1,1]) s' (fW (fun s'=>aJ P c f133.ntmps (behind (aK f133) [1,1,1,1]) s' (gX c (Fin T f133 (.rat (sQ b N D) (eJ (sQ b N D)))))) (gX c (Fin T f133 (.rat (sQ b N D) (eJ (sQ b N D)))))))
    (gX c (Fin T f133 (.rat (sQ b N D) (eJ (sQ b N D)))))):=by
   intro s' hv
   rw[List.drop_drop]
   refine aJ.gL hT pL hm 60 hv (h0 _) rfl hO' lX agR ah rfl ?_
   simp only[ag.all,aC,bI,bR]
   have hg:nl (Nat.gcd N D)<2^40:=Nat.lt_of_le_of_lt (jz (Nat.gcd_le_left _ aa)) hN
   have hg0:0<Nat.gcd N D:=Nat.gcd_pos_of_pos_left _ aa
   refine⟨⟨hN,hD⟩,hg,fun hb=>⟨⟨hN,hg⟩,⟨hD,hg⟩,fun s' hv=>last (Nat.lt_of_le_of_lt (jz (Nat.div_le_self _ _)) hN) (Nat.lt_of_le_of_lt (jz (Nat.div_le_self _ _)) hD) rfl rfl hv⟩,fun hb s' hv=>?_⟩
   have hg1:Nat.gcd N D=1:=by
    have:ck (Nat.gcd N D)<=1:=aa
    have:=Ut.1 this
    omega
   exact last hN hD (by rw[hg1,Nat.div_one]) (by rw[hg1,Nat.div_one]) hv
  refine⟨fun hb=>⟨hb,fun hc=>⟨?_,fun s' hv=>?_⟩,fun hc s' hv=>dx (long hv)⟩,fun hb=>⟨hb,fun h=>by simp at h,fun _ s' hv=>dx (long hv)⟩⟩
  ·have h2:nl D<=2:=by have:=of_decide_eq_true (kU hc);omega
   have:=q9 (show nl N<=2 by omega)
   have:=q9 h2
   exact⟨aa,h2,aa,aa,aa⟩
  ·refine gQ (gQ (Bw WU hv (h0 _) rfl (hO rfl) ⟨by simp[aC],?_⟩))
   exact .refl _
 refine⟨fun hb=>⟨⟨hN,hb⟩,fun _=>⟨aa,fun s' hv=>gQ (gQ (Bw Mp hv (h0 _) rfl (hO rfl) ⟨by simp[aC],hz ?_⟩))⟩,fun h=>by simp at h⟩,fun hb=>⟨⟨hN,hb,hD⟩,fun hc=>⟨aa,fun s' hv=>gQ (gQ (Bw Mp hv (h0 _) rfl (hO rfl) ⟨by simp[aC],hz ?_⟩))⟩,fun hc s' hv=>dx (rest ?_ ?_ hv)⟩⟩
 ·rw[FW.1 (show ck N=0 by omega),F3]
 ·have:=eq_of_beq (jT hc)
  rw[FW.1 (show ck D=0 by omega),V6]
 ·intro h;rw[h]at hb;exact hb (by decide)
 ·intro h
  have:=jT hc
  rw[h]at this
  simp[ck]at this
theorem ajQ {q:Rat} {n:Nat} (K:Nat) (pre:aI):aW P 120 K [.rat q n] pre (aO (.mag q.den) []):=by
 refine cB hT pL hm aar rfl bh rfl 60 aef (fun _=>?_) K pre
 simp only[ag.all,aC,beq_iff_eq,beq_eq_false_iff_ne,ne_eq]
 refine⟨aa,fun hb=>fG ?_,fun hb=>⟨aa,fG ?_⟩⟩
 ·have h0:=q.den_nz
  have:(if q.den=1 then 0 else q.den)=0:=lz.1 aa
  split at this
  ·rename_i h;rw[h]
  ·omega
 ·split
  ·rename_i h;rw[if_pos h]at hb;exact absurd (by decide) hb
  ·rfl
def Gt:Spec:=cD fun l=>match l with
 |[.rat q _]=>some (aO (.mag q.den) [])
 |_=>none
theorem J5:bp P Gt 120:=by
 refine cZ fun K args r hk hs _=>?_
 split at hs
 ·simp only[aB]at hs
  subst hs
  exact ajQ K []
 ·simp at hs
def fO (q:Rat):Bool:=decide (q.num.natAbs<4294967296)&&decide (q.den<4294967296)
abbrev wO (q:Rat):AV:=.tuple [.int .u64 (if fO q then q.num.natAbs else 0:Nat),.int .u64 (if fO q then q.den else 0:Nat),.bool (fO q)]
theorem wv {N:Nat}:nl N<=1↔N<4294967296:=eP
theorem ahg {q:Rat} {n:Nat} (K:Nat) (pre:aI):aW P 116 K [.rat q n] pre (aO (wO q) []):=by
 refine cB hT pL hm Wq rfl bh rfl 60 agc (fun _=>?_) K pre
 simp only[ag.all,aC,beq_iff_eq,beq_eq_false_iff_ne,ne_eq,bI,bR,Int.toNat_zero]
 have hd:=q.den_nz
 have no:¬(q.num.natAbs<4294967296/\q.den<4294967296)->iK [.int .u64 0,.int .u64 0,.bool false] (wO q):=by
  intro h
  have:fO q=false:=by
   unfold fO
   by_cases h1:q.num.natAbs<4294967296
   ·simp[h1];omega
   ·simp[h1]
  unfold wO
  rw[this]
  exact⟨.refl _,.refl _,.refl _,trivial⟩
 have yes:∀{x:Int} {v:Bool},q.num.natAbs<4294967296/\q.den<4294967296->x=(q.den:Nat)->v=true->iK [.int .u64 (q.num.natAbs:Nat),.int .u64 x,.bool v] (wO q):=by
  intro x v h hx hv
  have:fO q=true:=by unfold fO;simp[h]
  unfold wO
  rw[this]
  exact⟨.refl _,cE hx,jh hv,trivial⟩
 have hden:∀{m:Nat},nl (if q.den=1 then 0 else q.den)<=m↔(q.den=1\/nl q.den<=m):=by
  intro m
  by_cases h:q.den=1
  ·simp[h];simp[nl]
  ·simp[h]
 refine⟨fun hb=>⟨⟨aa,hb⟩,fun _=>no ?_,fun h=>by simp at h⟩,fun hb=>⟨⟨aa,hb,aa⟩,fun hc=>no ?_,fun hc=>⟨aa,fun h1=>⟨⟨aa,aa,aa⟩,⟨aa,aa⟩,?_⟩,fun h1=>⟨⟨aa,aa⟩,yes ?_ ?_ rfl⟩⟩⟩⟩
 ·have:=wv (N:=q.num.natAbs);omega
 ·have h2:=of_decide_eq_true (jT hc)
  have h3:=hden (m:=1)
  have h4:=wv (N:=q.den)
  omega
 ·have h2:=of_decide_eq_false (jT hc)
  have hn1:q.den≠1:=fun h=>by rw[if_pos h]at h1;simp[nl]at h1
  rw[if_neg hn1]at h1 h2 ⊢
  have h4:=(wv (N:=q.den)).1 aa
  have h5:=(wv (N:=q.num.natAbs)).1 aa
  have hl:aG q.den 0=q.den:=by
   have:=iW (N:=q.den)
   rw[show nl q.den=1 by omega,val,val]at this
   simpa using this
  rw[hl,cR aa aa]
  exact yes ⟨h5,h4⟩ rfl (by simp;omega)
 ·have h2:=of_decide_eq_false (jT hc)
  have h3:=hden (m:=1)
  have h3':=hden (m:=0)
  have h4:=wv (N:=q.den)
  have h5:=wv (N:=q.num.natAbs)
  have h6:=jc (N:=q.den)
  omega
 ·have h2:=of_decide_eq_false (jT hc)
  have h3:=hden (m:=0)
  have h6:=jc (N:=q.den)
  omega
def On:Spec:=cD fun l=>match l with
 |[.rat q _]=>some (aO (wO q) [])
 |_=>none
theorem ajp:bp P On 116:=by
 refine cZ fun K args r hk hs _=>?_
 split at hs
 ·simp only[aB]at hs
  subst hs
  exact ahg K []
 ·simp at hs
theorem sr {q r:Rat}:q=r↔(decide (q<0)=decide (r<0))/\q.num.natAbs=r.num.natAbs/\(if q.den=1 then 0 else q.den)=(if r.den=1 then 0 else r.den):=by
 constructor
 ·intro h;subst h;exact⟨rfl,rfl,rfl⟩
 ·rintro⟨h1,h2,h3⟩
  have hd:q.den=r.den:=by
   have:=q.den_nz
   have:=r.den_nz
   split at h3<;>split at h3<;>omega
  rw[<-mN q,<-mN r,h1,h2,hd]
theorem abK {q r:Rat} {n m:Nat} (hn:n<2^44) (hm':m<2^44) (K:Nat) (pre:aI):aW P 110 K [.rat q n,.rat r m] pre (aO (.bool (decide (q=r))) []):=by
 refine lJ fun⟨hs1,hs2,_⟩=>?_
 obtain⟨a1,a2,a3⟩:=Sz.lM hs1 hn
 obtain⟨b1,b2,b3⟩:=Sz.lM hs2 hm'
 refine cB hT pL hm ajZ rfl bh rfl 60 aew (fun _=>?_) K pre
 simp only[ag.all,aC]
 refine⟨fun hb=>⟨fun hc=>⟨⟨aa,aa,hb,aa,aa,a1,b1,hc,aa,aa,a3,b3⟩,jh ?_⟩,fun hc=>⟨⟨aa,aa,hb,aa,aa,a1,b1,hc⟩,jh ?_⟩⟩,fun hb=>⟨fun h=>by simp at h,fun _=>⟨⟨aa,aa,hb,trivial⟩,jh ?_⟩⟩⟩
 ·have h1:=eq_of_beq hb
  have h2:=of_decide_eq_true (kU hc)
  rw[cond_true]
  exact decide_eq_decide.2 ⟨fun h=>sr.2 ⟨h1,h2,h⟩,fun h=>(sr.1 h).2.2⟩
 ·have h2:=of_decide_eq_false (kU hc)
  exact(decide_eq_false fun h=>h2 (sr.1 h).2.1).symm
 ·refine(decide_eq_false fun h=>?_).symm
  rw[(sr.1 h).1]at hb
  simp at hb
theorem pR {q:Rat}:q.num.natAbs=0↔q=0:=by rw[Int.natAbs_eq_zero,Rat.num_eq_zero]
theorem RU {q:Rat} (h:q≠0) (h2:¬q<0):0<q:=by
 rw[Rat.lt_iff]
 have h3:¬q.num<0:=fun h=>h2 (kA.2 h)
 have h4:q.num≠0:=fun h5=>h (Rat.num_eq_zero.1 h5)
 simp;omega
theorem Nc {q:Rat} {n:Nat} (hn:n<2^44) (K:Nat) (pre:aI):aW P 65 K [.rat q n] pre (aO (.int .i64 (bK q)) []):=by
 refine lJ fun⟨hs1,_⟩=>?_
 obtain⟨a1,a2,a3⟩:=Sz.lM hs1 hn
 refine cB hT pL hm YP rfl bh rfl 60 aap (fun _=>?_) K pre
 simp only[ag.all,aC,beq_iff_eq,beq_eq_false_iff_ne,ne_eq]
 refine⟨⟨aa,a1⟩,fun hb=>cE ?_,fun hb=>⟨aa,fun hc=>cE ?_,fun hc=>cE ?_⟩⟩
 ·have h0:q=0:=pR.1 (FW.1 aa)
  subst h0
  rfl
 ·have:=of_decide_eq_true hc
  unfold bK;rw[if_pos this]
 ·have h1:=of_decide_eq_false hc
  have h0:q≠0:=fun h=>hb (by rw[h];rfl)
  unfold bK;rw[if_neg h1,if_pos (RU h0 h1)]
def QZ:Spec:=cD fun l=>match l with
 |[.rat q n]=>some (aO (.int .i64 (bK q)) [n<2^44])
 |_=>none
theorem ab6:bp P QZ 65:=by
 refine cZ fun K args r hk hs _=>?_
 split at hs
 ·simp only[aB]at hs
  subst hs
  exact fun need=>Nc need K [] trivial
 ·simp at hs
theorem N7 {q:Rat} {n:Nat} (h:Sz q n):bf (.agg [.bool (decide (q<0)),.mag q.num.natAbs,.mag (if q.den=1 then 0 else q.den)]) (.rat q n):=vm h rfl rfl rfl
theorem SZ {q:Rat} {n:Nat} (hn:n<2^44) (K:Nat) (pre:aI):aW P 166 K [.rat q n] pre (aO (.rat q n) []):=by
 refine lJ fun⟨hs1,_⟩=>?_
 have hs1:Sz q n:=hs1
 obtain⟨a1,a2,a3⟩:=Sz.lM hs1 hn
 refine cB hT pL hm ah1 rfl bh rfl 60 Xg (fun _=>?_) K pre
 simp only[ag.all,aC]
 exact⟨⟨aa,aa,a1,aa,a3,aa⟩,aa,N7 hs1⟩
def PG:Spec:=cD fun l=>match l with
 |[.rat q n]=>some (aO (.rat q n) [n<2^44])
 |_=>none
theorem U3:bp P PG 166:=by
 refine cZ fun K args r hk hs _=>?_
 split at hs
 ·simp only[aB]at hs
  subst hs
  exact fun need=>SZ need K [] trivial
 ·simp at hs
theorem Wg {n:Int} (h1:-2^63<=n) (h2:n<2^63) (K:Nat) (pre:aI):aW P 134 K [.int .i64 n] pre (aO (.mag n.natAbs) []):=by
 refine cB hT pL hm Z4 rfl bh rfl 60 abT (fun _=>?_) K pre
 simp only[ag.all,aC,beq_iff_eq,beq_eq_false_iff_ne,ne_eq]
 refine⟨fun hb=>⟨aa,fG ?_⟩,fun hb=>?_⟩
 ·subst hb;rfl
 ·have e:i64.wrap (0-n)=-n:=by rw[wrap_i64 aa aa];omega
  rw[e]
  have e2 : u64.wrap (if n < -n then -n else n) = ((n.natAbs : Nat) : Int) := by
   rw[cR (by split<;>omega) (by split<;>omega)]
   split<;>omega
  rw[e2]
  refine⟨⟨aa,aa⟩,fG (by rw[bS])⟩
def NM:Spec:=cD fun l=>match l with
 |[.int .i64 n]=>some (aO (.mag n.natAbs) [-2^63<=n,n<2^63])
 |_=>none
theorem ajJ:bp P NM 134:=by
 refine cZ fun K args r hk hs _=>?_
 split at hs
 ·simp only[aB]at hs
  subst hs
  exact fun need=>Wg need.1 need.2 K [] trivial
 ·simp at hs
def IT:Spec:=cD fun l=>match l with
 |[.bool b,x,y]=>match kB x,kB y with
  |some N,some D=>some (aO (.rat (sQ b N D) (eJ (sQ b N D))) [nl N<2^40,nl D<2^40])
  |_,_=>none
 |_=>none
theorem JJ:bp P IT 133:=by
 refine cZ fun K args r hk hs _=>?_
 split at hs
 ·split at hs
  ·rename_i N D h1 h2
   simp only[aB]at hs
   subst hs
   exact fun need=>iz (ajS need.1 need.2 K []) hk ⟨.refl _,nO h1,nO h2,trivial⟩ [] trivial
  ·simp at hs
 ·simp at hs
theorem ael:bu 164 f164:=bC func164
theorem UI:bu 129 f129:=bC func129
theorem adz:bu 142 f142:=bC func142
theorem SO:bu 58 f58:=bC func58
def GQ:bE:=(116,On)::(165,Hg)::(120,Gt)::(133,IT)::(119,cD (jM Lr))::(169,cD (jM FG))::(178,cD (jM Mb))::(118,cD (jM Dn))::(117,IY)::(177,Ob)::(65,QZ)::[]
theorem nT:bY P GQ:=aM ajp (aM KW (aM J5 (aM JJ (aM aez (aM Ol (aM VM (aM Ie (aM Rl (aM R7 (aM ab6 cJ))))))))))
theorem aa5 {q r:Rat} {n m:Nat}:cy T GQ [15,20,28,35] 60 f129 (aK f129) ⟨aZ 0 [.rat q n,.rat r m],[],0⟩=
  let d:=q.num.natAbs;let b:=r.num.natAbs;let e:=2^40;let i:=decide (q<0)!=decide (r<0);let a:=0<1;let h:=u64.wrap ((↑(if fO q=true then q.den else 0):Int)*(↑(if fO r=true then r.den else 0):Int));let f:=sQ i (d*b) (q.den*r.den);let j:=(↑(nl d):Int)==0;let o:ag (List AV):=ag.aj [a] (ag.aj [a] (ag.leaf au.ret [agg [AV.bool false,mag 0,mag 0]]));let g:=u64.wrap ((↑(if fO q=true then d else 0):Int)*(↑(if fO r=true then b else 0):Int));let l:ag (List AV):=ag.aj [a,a,a,a,nl d<e,nl b<e,a,a,nl q.den<e,nl r.den<e,nl (d*b)<e,nl (q.den*r.den)<e,a] (ag.aj [a] (ag.leaf au.ret [rat f (eJ f)]));let k:ag (List AV):=ag.aj [a] (ag.fork (fO q) (ag.aj [a] (ag.fork (fO r) (ag.aj [a,a,(0:Int)<=g/\g<2^64,(0:Int)<h/\h<2^64,a] (ag.aj [a] (ag.leaf au.ret [rat (sQ i g.toNat h.toNat) (eJ (sQ i g.toNat h.toNat))]))) l)) l);some (ag.fork j (ag.aj [a,j=true] (ag.fork true o k)) (ag.aj [a,j=false,a] (ag.fork (bif false then true else(↑(nl b):Int)==0) o k))):=ah
theorem aku {q r:Rat} {n m:Nat}:cy T GQ [14,22,29] 60 f142 (aK f142) ⟨aZ 0 [.rat q n,.rat r m],[],0⟩=
  let d:=int .i64 (0:Int);let h:=r.num.natAbs;let g:=q.num.natAbs;let b:=2^40;let i:=decide (q<0)!=decide (r<0);let a:=0<1;let k:=sQ i (g*r.den) (q.den*h);let f:=u64.wrap ((↑(if fO q=true then g else 0):Int)*(↑(if fO r=true then r.den else 0):Int));let e:=u64.wrap ((↑(if fO q=true then q.den else 0):Int)*(↑(if fO r=true then h else 0):Int));let j:ag (List AV):=ag.aj [a,a,a,a,nl g<b,nl r.den<b,a,a,nl q.den<b,nl h<b,nl (g*r.den)<b,nl (q.den*h)<b,a] (ag.aj [a] (ag.leaf au.ret [rat k (eJ k),d]));some (ag.aj [a,m<2^44] (ag.fork (bK r==0) (ag.aj [a] (ag.aj [a] (ag.leaf au.ret [agg [AV.bool false,mag 0,mag 0],int .i64 (3:Int)]))) (ag.aj [a] (ag.fork (fO q) (ag.aj [a] (ag.fork (fO r) (ag.aj [a,a,(0:Int)<=f/\f<2^64,(0:Int)<e/\e<2^64,a] (ag.aj [a] (ag.leaf au.ret [rat (sQ i f.toNat e.toNat) (eJ (sQ i f.toNat e.toNat)),d]))) j)) j)))):=ah
abbrev gk:List Nat:=[2,3,4,6]
abbrev jR (s:Bool):List AV:=[.bool s,.ptr 0 0 3 0 [],.ptr 4096 0 3 0 [],.ptr 8192 0 3 0 []]
abbrev pP (q r:Rat) (n m:Nat):aI:=[(8192,⟨false,true,3,1,fun _=>.rat 0 1⟩),(4096,⟨false,true,3,1,fun _=>.rat r m⟩),(0,⟨false,true,3,1,fun _=>.rat q n⟩)]
abbrev E4:Code:=part (aK f164) [1,0]
abbrev EA:Code:=part E4 [1,1,0]
abbrev xx:Code:=part EA [1,1,0]
abbrev p5:Code:=part (aK f164) [1,1]
theorem af2 {q r:Rat} {n m:Nat} {s:Bool}:aL T GQ [] 60 gk [part (aK f164) [0]] ⟨aZ 0 [.rat q n,.rat r m,.bool s],[],0⟩=
  some (ag.leaf au.normal ([AV.bool s,ptr 0 0 (eE (rat q n)).size 0 [],ptr 4096 0 (eE (rat r m)).size 0 [],ptr 8192 0 3 0 []],[(8192,aA.mk false true 3 1 fun x=>rat 0 1),(4096,aA.mk false true (eE (rat r m)).size 1 fun x=>rat r m),(0,aA.mk false true (eE (rat q n)).size 1 fun x=>rat q n)])):=ah
theorem Xw {q r:Rat} {n m:Nat} {s:Bool}:aL T GQ [] 60 (gk++[7,8,28]) (before E4 [1,1]) ⟨aH gk (jR s),pP q r n m,8193⟩=
  some (ag.aj [(0:Nat)<1] (ag.leaf au.normal ([AV.bool s,ptr 0 0 3 0 [],ptr 4096 0 3 0 [],ptr 8192 0 3 0 [],int .u64 (↑(if fO q=true then q.num.natAbs else 0):Int),int .u64 (↑(if fO q=true then q.den else 0):Int),AV.bool (fO q)],[(8192,aA.mk false true 3 1 fun x=>rat 0 1),(4096,aA.mk false true 3 1 fun x=>rat r m),(0,aA.mk false true 3 1 fun x=>rat q n)]))):=ah
theorem ac8 {q r:Rat} {n m:Nat} {s:Bool} {x p:Nat}:aL T GQ [] 60 (gk++[7,8,10,11,35]) (before EA [1,1]) ⟨aH (gk++[7,8]) (jR s++[.int .u64 x,.int .u64 p]),pP q r n m,8193⟩=
  some (ag.aj [(0:Nat)<1] (ag.leaf au.normal ([AV.bool s,ptr 0 0 3 0 [],ptr 4096 0 3 0 [],ptr 8192 0 3 0 [],int .u64 (↑x:Int),int .u64 (↑p:Int),int .u64 (↑(if fO r=true then r.num.natAbs else 0):Int),int .u64 (↑(if fO r=true then r.den else 0):Int),AV.bool (fO r)],[(8192,aA.mk false true 3 1 fun x=>rat 0 1),(4096,aA.mk false true 3 1 fun x=>rat r m),(0,aA.mk false true 3 1 fun x=>rat q n)]))):=ah
abbrev qW (b:Bool) (N D:Nat) (r:Rat) (m:Nat) (f:Nat->AV):aI:=[(8192,⟨false,true,3,1,f⟩),(4096,⟨false,true,3,1,fun _=>.rat r m⟩),(0,⟨false,true,3,1,fun _=>.agg [.bool b,.mag N,.mag D]⟩)]
theorem ahW {r:Rat} {m N D:Nat} {x p y t:Nat}:aL T GQ [48] 60 gk [xx] ⟨aH (gk++[7,8,10,11]) (jR true++[.int .u64 x,.int .u64 p,.int .u64 y,.int .u64 t]),qW true N D r m fun _=>.rat 0 1,8193⟩=
  let a:=rat 0 1;let k:=u64.wrap ((↑x:Int)*(↑t:Int));let i:=u64.wrap ((↑y:Int)*(↑p:Int));let b:=[(0:Nat)<1];let e:=u64.wrap ((↑p:Int)*(↑t:Int));let g:List (Nat×aA):=[(4096,aA.mk false true 3 1 fun x=>rat r m),(0,aA.mk false true 3 1 fun x=>agg [AV.bool true,mag N,mag D])];let f:=[AV.bool true,ptr 0 0 3 0 [],ptr 4096 0 3 0 [],ptr 8192 0 3 0 []];let h:=k+i+0;let d:=h%(18446744073709551616:Int);let l:=sQ true d.toNat e.toNat;some (ag.aj [(0:Int)<=k,(0:Int)<=i,(0:Int)<=0/\(0:Int)<=1] (ag.aj b (ag.fork (bif true==true then h/(18446744073709551616:Int)==0 else false) (ag.aj (((0:Int)<=d/\d<2^64)::((0:Int)<e/\e<2^64)::b) (ag.leaf au.ret (f,(8192,aA.mk false true 3 1 fun j=>if(j==0)=true then eE (rat l (eJ l))else a)::g))) (ag.aj b (ag.aj b (ag.leaf au.normal (f,(8192,aA.mk false true 3 1 fun x=>a)::g))))))):=ah
theorem V8 {r:Rat} {m N D:Nat} {x p y t:Nat}:aL T GQ [48] 60 gk [xx] ⟨aH (gk++[7,8,10,11]) (jR false++[.int .u64 x,.int .u64 p,.int .u64 y,.int .u64 t]),qW false N D r m fun _=>.rat 0 1,8193⟩=
  let a:=rat 0 1;let k:=u64.wrap ((↑y:Int)*(↑p:Int));let i:=u64.wrap ((↑x:Int)*(↑t:Int));let b:=[(0:Nat)<1];let e:=u64.wrap ((↑p:Int)*(↑t:Int));let g:List (Nat×aA):=[(4096,aA.mk false true 3 1 fun x=>rat r m),(0,aA.mk false true 3 1 fun x=>agg [AV.bool false,mag N,mag D])];let f:=[AV.bool false,ptr 0 0 3 0 [],ptr 4096 0 3 0 [],ptr 8192 0 3 0 []];let h:=i+k+0;let d:=h%(18446744073709551616:Int);let l:=sQ false d.toNat e.toNat;some (ag.aj [(0:Int)<=i,(0:Int)<=k,(0:Int)<=0/\(0:Int)<=1] (ag.aj b (ag.fork (bif false==false then h/(18446744073709551616:Int)==0 else false) (ag.aj (((0:Int)<=d/\d<2^64)::((0:Int)<e/\e<2^64)::b) (ag.leaf au.ret (f,(8192,aA.mk false true 3 1 fun j=>if(j==0)=true then eE (rat l (eJ l))else a)::g))) (ag.aj b (ag.aj b (ag.leaf au.normal (f,(8192,aA.mk false true 3 1 fun x=>a)::g))))))):=ah
theorem Vn {r:Rat} {m N D:Nat} {x p y t:Nat}:aL T GQ [63] 60 gk [xx] ⟨aH (gk++[7,8,10,11]) (jR false++[.int .u64 x,.int .u64 p,.int .u64 y,.int .u64 t]),qW true N D r m fun _=>.rat 0 1,8193⟩=
  let d:=rat 0 1;let n:=(2:Int)^64;let f:=0<1;let q:List (Nat×aA):=[(4096,aA.mk false true 3 1 fun x=>rat r m),(0,aA.mk false true 3 1 fun x=>agg [AV.bool true,mag N,mag D])];let o:=[AV.bool false,ptr 0 0 3 0 [],ptr 4096 0 3 0 [],ptr 8192 0 3 0 []];let i:=u64.wrap ((↑p:Int)*(↑t:Int));let h:=u64.wrap ((↑x:Int)*(↑t:Int));let g:=u64.wrap ((↑y:Int)*(↑p:Int));let e:=[(0:Int)<i/\i<n,f];let l:=u64.wrap (g-h);let k:=u64.wrap (h-g);let b:=sQ true k.toNat i.toNat;let a:=sQ false l.toNat i.toNat;some (ag.aj [(0:Int)<=h,(0:Int)<=g,(0:Int)<=0/\(0:Int)<=1] (ag.aj [f] (ag.aj [f] (ag.fork (bif true !=false then decide (h>=g)else false) (ag.aj (f::((0:Int)<=k/\k<n)::e) (ag.leaf au.ret (o,(8192,aA.mk false true 3 1 fun j=>if(j==0)=true then eE (rat b (eJ b))else d)::q))) (ag.aj [f] (ag.aj (((0:Int)<=l/\l<n)::e) (ag.leaf au.ret (o,(8192,aA.mk false true 3 1 fun j=>if(j==0)=true then eE (rat a (eJ a))else d)::q)))))))):=ah
theorem agm {r:Rat} {m N D:Nat} {x p y t:Nat}:aL T GQ [63] 60 gk [xx] ⟨aH (gk++[7,8,10,11]) (jR true++[.int .u64 x,.int .u64 p,.int .u64 y,.int .u64 t]),qW false N D r m fun _=>.rat 0 1,8193⟩=
  let e:=rat 0 1;let n:=(2:Int)^64;let f:=0<1;let q:List (Nat×aA):=[(4096,aA.mk false true 3 1 fun x=>rat r m),(0,aA.mk false true 3 1 fun x=>agg [AV.bool false,mag N,mag D])];let o:=[AV.bool true,ptr 0 0 3 0 [],ptr 4096 0 3 0 [],ptr 8192 0 3 0 []];let i:=u64.wrap ((↑p:Int)*(↑t:Int));let h:=u64.wrap ((↑x:Int)*(↑t:Int));let g:=u64.wrap ((↑y:Int)*(↑p:Int));let d:=[(0:Int)<i/\i<n,f];let l:=u64.wrap (g-h);let k:=u64.wrap (h-g);let b:=sQ true l.toNat i.toNat;let a:=sQ false k.toNat i.toNat;some (ag.aj [(0:Int)<=h,(0:Int)<=g,(0:Int)<=0/\(0:Int)<=1] (ag.aj [f] (ag.aj [f] (ag.fork (bif false !=true then decide (h>=g)else false) (ag.aj (f::((0:Int)<=k/\k<n)::d) (ag.leaf au.ret (o,(8192,aA.mk false true 3 1 fun j=>if(j==0)=true then eE (rat a (eJ a))else e)::q))) (ag.aj [f] (ag.aj (((0:Int)<=l/\l<n)::d) (ag.leaf au.ret (o,(8192,aA.mk false true 3 1 fun j=>if(j==0)=true then eE (rat b (eJ b))else e)::q)))))))):=ah
theorem adM {b s:Bool} {r:Rat} {m N D k:Nat} {z:Rat}:pK T f164 .ret ⟨aH gk (jR s),qW b N D r m fun j=>if j=0 then eE (.rat z k)else .rat 0 1,8193⟩=
  some (ag.aj [(0:Nat)<1] (ag.leaf au.ret [rat z k])):=ah
theorem Ur {q r:Rat} {n m:Nat} {s:Bool}:aL T GQ [106] 60 (gk++[15,16,17]) (before p5 [1,1]) ⟨aH gk (jR s),pP q r n m,8193⟩=
  let i:=ptr 0 0 3 0 [];let h:=ptr 8192 0 3 0 [];let g:=ptr 4096 0 3 0 [];let f:=if r.den=1 then 0 else r.den;let e:=if q.den=1 then 0 else q.den;let b:=0<1;let a:=2^40;let d:List (Nat×aA):=[(8192,aA.mk false true 3 1 fun x=>rat 0 1),(4096,aA.mk false true 3 1 fun x=>rat r m),(0,aA.mk false true 3 1 fun x=>rat q n)];some (ag.aj [b,b,b] (ag.aj [b,b,nl e<a,nl f<a] (ag.fork (!decide (e=f)) (ag.aj [b,nl q.num.natAbs<a,nl r.den<a,b,nl r.num.natAbs<a,nl q.den<a,b,nl q.den<a,nl r.den<a] (ag.leaf au.normal ([AV.bool s,i,g,h,mag (q.num.natAbs*r.den),mag (r.num.natAbs*q.den),mag (q.den*r.den)],d))) (ag.leaf au.normal ([AV.bool s,i,g,h,mag q.num.natAbs,mag r.num.natAbs,mag q.den],d))))):=ah
theorem Zk {q r:Rat} {n m:Nat} {s:Bool} {X Y D:Nat}:dc T GQ [122,136] 60 f164 [part p5 [1,1]] ⟨aH (gk++[15,16,17]) (jR s++[.mag X,.mag Y,.mag D]),pP q r n m,8193⟩=
  let d:=decide (q<0);let b:=0<1;let a:=2^40;some (ag.aj [b] (ag.fork (d==s) (ag.aj [nl X<a,nl Y<a,nl (X+Y)<a,nl D<a,b] (ag.aj [b] (ag.leaf au.ret [rat (sQ s (X+Y) D) (eJ (sQ s (X+Y) D))]))) (ag.aj [nl X<a,nl Y<a] (ag.fork ((if X<Y then(7:Int)else(0:Int))==0) (ag.aj [b,nl (X-Y)<a,nl D<a,b] (ag.aj [b] (ag.leaf au.ret [rat (sQ d (X-Y) D) (eJ (sQ d (X-Y) D))]))) (ag.aj [nl Y<a,nl X<a] (ag.aj [nl (Y-X)<a,nl D<a,b] (ag.aj [b] (ag.leaf au.ret [rat (sQ s (Y-X) D) (eJ (sQ s (Y-X) D))])))))))):=ah
end Go.Am.B
