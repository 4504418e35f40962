/- natural.Div: its loops. -/
import Derived.Test.YtfjlccdmhpdiiaaGreatY4
import Derived.Laws.Externs
import Derived.Test.YtfjlccdmhpdiiaaGreatZ2
set_option linter.unusedVariables false
variable {A B D N X Y a l m n p t y:Nat}{z:Nat->Nat}{b:Bool}{r:Rat}
noncomputable section
namespace Go.Am.B
open Go Go.Am.N AV Proofs.Tryz IntKind
theorem j8:bn P GD:=aH G9 (aH II (aH afN (aH aev (aH T6 iD))))
theorem w8:bn P GT:=aH ZY bw
section pieces
variable {c:Ctx} (h0:∀k x,c.k0 k=some x->k<9) {Q:au->aK->Prop} {lq s lu V j:Nat} {q u:Nat->Nat} {s':aK}
theorem jx {lq lu:Nat} {q u:Nat->Nat}:iQ 9 (dy lq lu q u):=⟨⟨aa,fun _ _=>rfl⟩,⟨aa,fun _ _=>rfl⟩,trivial⟩
theorem fz {a:Int} (h:a=n) (hn:n<2^63):i64.wrap a=(n:Int):=by rw[h,wrap_i64 aa aa]
theorem jk {a v:Bool} (h:(bif false then a else b)=v):b=v:=h
theorem MD {b:Nat} (h:(a:Int)>(b:Int)):b<a:=aa
theorem akv {b:Nat} (h:¬(a:Int)>(b:Int)):a<=b:=aa
abbrev oM:List Nat:=dJ++[15,16]
abbrev wW (lq s lu V:Nat) (j x:Int) (rest:Nat):List AV:=fL lq s lu V j++[.int .u64 x,.int .u64 (rest:Nat)]
include h0 in
theorem ajN {top qt v1 v2 u3 x0 r0:Nat} (hlu:lu<2^41) (hn:2<=nl V) (hj:j+nl V<lu) (e1:aD V (nl V-1)=v1) (e2:aD V (nl V-2)=v2) (e3:u (j+nl V-2)=u3) (hu3:u3<4294967296)
  (hx0:x0*v1+r0=top) (hr0:r0<4294967296) (hq0:qt<=x0) (hx33:x0<2^34)
  (hbig:qt<4294967296) (hstep:∀x rest,x*v1+rest=top->rest*4294967296+u3<x*v2->qt<x) (hsmall:∀x rest,x*v1+rest=top->4294967296<=rest->x<4294967296)
  (hv:bD oM s'=some (wW lq s lu V j x0 r0,dy lq lu q u))
  (fin:∀x rest s',x<4294967296->x*v1+rest=top->qt<=x->x*v2<=rest*4294967296+u3->bD oM s'=some (wW lq s lu V j x rest,dy lq lu q u)->Q .normal s'):
  ax P c f202.ntmps (part ru [1,1,0]) s' Q:=by
 refine ax.iN (i:=3) (y:=part ru [1,1,0,0,0]) ah oM 9 h0 (fun p:Nat×Nat=>wW lq s lu V j p.1 p.2) (fun _=>dy lq lu q u) (fun _=>rfl) (fun _=>jx)
  (fun p=>p.1*v1+p.2=top/\p.2<4294967296/\qt<=p.1/\p.1<2^34) (fun p=>p.1) (x0,r0) hv ⟨hx0,hr0,hq0,hx33⟩ ?_
 rintro⟨x,rest⟩ ⟨ht,hr,hq,hx⟩;simp only at ht hr hq hx;show ax P c f202.ntmps _ ⟨aA oM (wW lq s lu V j (x:Int) rest),dy lq lu q u,9⟩ _;obtain⟨X,hX⟩:∃X:Int,X=(x:Int):=⟨_,rfl⟩
 rw[<-hX];refine ax.bE hT j8 hm 60 oM (al1 (x:=X)) ah ?_;rw[hX];have w1:i64.wrap ((nl V:Int)-1)=((nl V-1:Nat):Int):=fz aa aa;have w2:i64.wrap ((nl V:Int)-2)=((nl V-2:Nat):Int):=fz aa aa;have w3:i64.wrap ((j:Int)+(nl V:Int))=((j+nl V:Nat):Int):=fz aa aa;have w4:i64.wrap (((j+nl V:Nat):Int)-2)=((j+nl V-2:Nat):Int):=fz aa aa;have hv1:aD V (nl V-1)<4294967296:=ec;have hv2:aD V (nl V-2)<4294967296:=ec;have w5:u64.wrap ((rest:Int)+u64.wrap (aD V (nl V-1):Int))=((rest+v1:Nat):Int):=by
  rw[cC (x:=(aD V (nl V-1):Int)) aa aa,cC aa aa,e1];omega
 rw[w1,w2,w3,w4];simp only[ag.all,ay,bg,Nat.add_zero,w5,e3];rw[v8 hr hu3];have next:∀{s':aK},qt<x->rest+v1<4294967296->bD oM s'=some ([.own 8 1 0 lq,.int .i64 s,.own 7 1 0 lu,.mag V,.int .i64 (nl V),.int .i64 j,.int .u64 (u64.wrap ((x:Int)-1)),.int .u64 ((rest+v1:Nat):Int)],dy lq lu q u)->
   ∃k:Nat×Nat,bD oM s'=some (wW lq s lu V j k.1 k.2,dy lq lu q u)/\(k.1*v1+k.2=top/\k.2<4294967296/\qt<=k.1/\k.1<2^34)/\k.1<x:=by
  intro s' h1 h2 hv;refine⟨(x-1,rest+v1),?_,⟨?_,h2,by simp only;omega,by simp only;omega⟩,by simp only;omega⟩
  ·refine er hv ?_ rfl;rw[cC (x:=(x:Int)-1) aa aa,show(x:Int)-1=((x-1:Nat):Int) by omega];rfl
  ·simp only;obtain⟨y,rfl⟩:∃y,x=y+1:=⟨x-1,aa⟩
   rw[Nat.add_mul]at ht;simp only[Nat.add_sub_cancel];omega
 have last:∀{s':aK},qt<x->4294967296<=rest+v1->bD oM s'=some ([.own 8 1 0 lq,.int .i64 s,.own 7 1 0 lu,.mag V,.int .i64 (nl V),.int .i64 j,.int .u64 (u64.wrap ((x:Int)-1)),.int .u64 ((rest+v1:Nat):Int)],dy lq lu q u)->Q .normal s':=by
  intro s' h1 h2 hv;have ht':(x-1)*v1+(rest+v1)=top:=by
   obtain⟨y,rfl⟩:∃y,x=y+1:=⟨x-1,aa⟩
   rw[Nat.add_mul]at ht;simp only[Nat.add_sub_cancel];omega
  have hsm:=hsmall _ _ ht' h2;refine fin (x-1) (rest+v1) s' hsm ht' aa ?_ (er hv ?_ rfl)
  ·have a1:(x-1)*v2<=4294967295*4294967295:=Nat.mul_le_mul aa aa;omega
  ·rw[cC (x:=(x:Int)-1) aa aa,show(x:Int)-1=((x-1:Nat):Int) by omega];rfl
 refine⟨fun hb=>⟨hb,fun _=>⟨aa,fun h1 s' hv=>?_,fun h1 s' hv=>?_⟩,fun h=>by simp at h⟩,fun hb=>⟨⟨hb,aa,aa,aa,aa⟩,?_⟩⟩
 ·simp only[br]at hb h1;exact gk (last aa aa hv)
 ·simp only[br,bC]at hb h1;exact next aa aa hv
 ·simp only[bC]at hb;have hxB:x<4294967296:=aa;have m1:x*aD V (nl V-2)<=(2^32-1)*(2^32-1):=Nat.mul_le_mul aa aa;have w6:u64.wrap ((x:Int)*u64.wrap (aD V (nl V-2):Int))=((x*v2:Nat):Int):=by
   rw[cC (x:=(aD V (nl V-2):Int)) aa aa,e2];have:(x:Int)*(v2:Int)=((x*v2:Nat):Int):=by simp
   rw[this,cC aa (by rw[e2]at m1;omega)]
  rw[w6];refine⟨fun h1=>⟨aa,fun h2 s' hv=>?_,fun h2 s' hv=>?_⟩,fun h1 s' hv=>?_⟩
  ·simp only[br]at h2;exact gk (last (hstep x rest ht (MD (of_decide_eq_true (jk h1)))) (by clear h1 w6 m1;omega) hv)
  ·simp only[bC]at h2;exact next (hstep x rest ht (MD (of_decide_eq_true (jk h1)))) (by clear h1 w6 m1;omega) hv
  ·skip
   exact gk (fin x rest s' hxB ht hq (akv (of_decide_eq_false (jk h1))) hv)
abbrev Ac:List Nat:=dJ++[15,17,18,154,155,156]
abbrev BE (lq s lu V:Nat) (j:Int) (x b c i:Nat):List AV:=fL lq s lu V j++[.int .u64 (x:Nat),.int .u64 (b:Nat),.int .u64 (c:Nat),.mag V,.int .i64 (nl V),.int .i64 (i:Nat)]
include h0 in
theorem Xv {x:Nat} (hlu:lu<2^41) (hj:j+nl V<lu) (hx:x<4294967296) (hu:∀i,i<lu->u i<2^32)
  (hv:bD Ac s'=some (BE lq s lu V j x 0 0 0,dy lq lu q u))
  (fin:∀b c u' s',b<=1->c<4294967296->(∀i,i<lu->u' i<2^32)->(∀i,i<j\/j+nl V<=i->u' i=u i)->
   val (nl V) (fun i=>u' (j+i))+x*V=val (nl V) (fun i=>u (j+i))+(c+b)*2^(32*nl V)->bD Ac s'=some (BE lq s lu V j x b c (nl V),dy lq lu q u')->Q .normal s'):
  ax P c f202.ntmps (part vt [1,0,1]) s' Q:=by
 refine ax.iN (i:=5) (y:=part vt [1,0,1,0,0]) ah Ac 9 h0 (fun p:Nat×Nat×Nat×(Nat->Nat)=>BE lq s lu V j x p.2.1 p.2.2.1 p.1) (fun p=>dy lq lu q p.2.2.2) (fun _=>rfl) (fun _=>jx)
  (fun p=>p.1<=nl V/\p.2.1<=1/\p.2.2.1<4294967296/\(∀i,i<lu->p.2.2.2 i<2^32)/\(∀i,i<j\/j+p.1<=i->p.2.2.2 i=u i)/\
   val p.1 (fun i=>p.2.2.2 (j+i))+x*val p.1 (aD V)=val p.1 (fun i=>u (j+i))+(p.2.2.1+p.2.1)*2^(32*p.1)) (fun p=>nl V-p.1) (0,0,0,u) hv
  ⟨by simp,by simp,by simp,hu,fun i _=>rfl,by simp[val]⟩ ?_
 rintro⟨i,b,cc,u'⟩ ⟨hi,hb,hc,hu',hout,hval⟩;simp only at hi hb hc hu' hout hval;refine ax.bE hT j8 hm 60 Ac div_mul ah ?_;simp only[ag.all,ay,br,bC,beq_iff_eq];refine⟨fun h1=>?_,fun h1 s' hv=>?_⟩
 ·have hin:i<nl V:=aa;have w1:i64.wrap ((i:Int)+(j:Int))=((j+i:Nat):Int):=fz aa aa;rw[w1];simp only[bg,Nat.add_zero];obtain⟨m1,m2,m3⟩:=ajP hc hx (ec (N:=V) (i:=i));have hui:=hu' (j+i) aa;obtain⟨g1,g2⟩:=QV (u:=u' (j+i)) (c:=(cc+x*aD V i)%4294967296) hui aa hb;rw[m1,ams m2,g1,g2,mW];refine⟨aa,aa,aa,aa,aa,fun s' hv=>⟨(i+1,(if(cc+x*aD V i)%4294967296+b<=u' (j+i)then 0 else 1),(cc+x*aD V i)/4294967296,cR u' (j+i) ((u' (j+i)+4294967296-(cc+x*aD V i)%4294967296-b)%4294967296)),er hv ?_ ?_,⟨by simp only;omega,by simp only;split<;>omega,m3,jl aa hu',fun k hk=>?_,?_⟩,by simp only;omega⟩⟩
  ·rw[fz (a:=(i:Int)+1) (n:=i+1) aa aa];simp only[BE,fL,List.cons_append,List.nil_append,List.cons.injEq,AV.int.injEq,and_true,true_and];omega
  ·simp only[dy];congr 4;funext k;exact iI rfl k
  ·simp only at hk ⊢;rw[gz aa];exact hout k aa
  ·simp only;rw[val,val,val,lp,val_congr (y:=fun i=>u' (j+i)) fun k hk=>gz aa,iV,<-hout (j+i) aa];exact afi aa hb hui rfl hval
 ·have hin:i=nl V:=aa;subst hin;rw[gL]at hval;exact gk (fin b cc u' s' hb hc hu' hout hval hv)
abbrev xF:List Nat:=dJ++[15,18,214,215,216]
abbrev AX (lq s lu V:Nat) (j:Int) (x c i:Nat):List AV:=fL lq s lu V j++[.int .u64 (x:Nat),.int .u64 (c:Nat),.mag V,.int .i64 (nl V),.int .i64 (i:Nat)]
include h0 in
theorem afX {x:Nat} (hlu:lu<2^41) (hj:j+nl V<lu) (hu:∀i,i<lu->u i<2^32)
  (hv:bD xF s'=some (AX lq s lu V j x 0 0,dy lq lu q u))
  (fin:∀c u' s',c<=1->(∀i,i<lu->u' i<2^32)->(∀i,i<j\/j+nl V<=i->u' i=u i)->
   val (nl V) (fun i=>u' (j+i))+c*2^(32*nl V)=val (nl V) (fun i=>u (j+i))+V->bD xF s'=some (AX lq s lu V j x c (nl V),dy lq lu q u')->Q .normal s'):
  ax P c f202.ntmps (part tG [1,1,0,1]) s' Q:=by
 refine ax.iN (i:=7) (y:=part tG [1,1,0,1,0,0]) ah xF 9 h0 (fun p:Nat×Nat×(Nat->Nat)=>AX lq s lu V j x p.2.1 p.1) (fun p=>dy lq lu q p.2.2) (fun _=>rfl) (fun _=>jx)
  (fun p=>p.1<=nl V/\p.2.1<=1/\(∀i,i<lu->p.2.2 i<2^32)/\(∀i,i<j\/j+p.1<=i->p.2.2 i=u i)/\
   val p.1 (fun i=>p.2.2 (j+i))+p.2.1*2^(32*p.1)=val p.1 (fun i=>u (j+i))+val p.1 (aD V)) (fun p=>nl V-p.1) (0,0,u) hv
  ⟨by simp,by simp,hu,fun i _=>rfl,by simp[val]⟩ ?_
 rintro⟨i,cc,u'⟩ ⟨hi,hc,hu',hout,hval⟩;simp only at hi hc hu' hout hval;refine ax.bE hT j8 hm 60 xF div_add ah ?_;simp only[ag.all,ay,br,bC,beq_iff_eq];refine⟨fun h1=>?_,fun h1 s' hv=>?_⟩
 ·have hin:i<nl V:=aa;have w1:i64.wrap ((i:Int)+(j:Int))=((j+i:Nat):Int):=fz aa aa;rw[w1];simp only[bg,Nat.add_zero];have hui:=hu' (j+i) aa;have hvi:=ec (N:=V) (i:=i);have m1:u64.wrap ((cc:Int)+u64.wrap (u64.wrap (u' (j+i):Int)+u64.wrap (aD V i:Int)))=((cc+u' (j+i)+aD V i:Nat):Int):=by
   rw[cC (x:=(u' (j+i):Int)) aa aa,cC (x:=(aD V i:Int)) aa aa,cC (x:=(u' (j+i):Int)+_) aa aa,cC aa aa];omega
  rw[m1,mW];refine⟨aa,aa,aa,aa,fun s' hv=>⟨(i+1,(cc+u' (j+i)+aD V i)/4294967296,cR u' (j+i) ((cc+u' (j+i)+aD V i)%4294967296)),er hv ?_ ?_,⟨by simp only;omega,by simp only;omega,jl aa hu',fun k hk=>?_,?_⟩,by simp only;omega⟩⟩
  ·rw[fz (a:=(i:Int)+1) (n:=i+1) aa aa];simp only[AX,fL,List.cons_append,List.nil_append,List.cons.injEq,AV.int.injEq,and_true,true_and];omega
  ·simp only[dy];congr 4;funext k;exact iI (by rw[kB]) k
  ·simp only at hk ⊢;rw[gz aa];exact hout k aa
  ·simp only;rw[val,val,val,lp,val_congr (y:=fun i=>u' (j+i)) fun k hk=>gz aa,iV,<-hout (j+i) aa];have:=HL (B:=2^(32*i)) (c:=cc) (z:=u' (j+i)) (y:=aD V i) rfl hval;omega
 ·have hin:i=nl V:=aa;subst hin;rw[gL]at hval;exact gk (fin cc u' s' hc hu' hout hval hv)
end pieces
end Go.Am.B
namespace Go.Am.B
open Go Go.Am.N AV Proofs.Tryz IntKind
theorem Ap {ls:List Nat} {vs:List AV} {os:aC} {s':aK} (hv:bD ls s'=some (vs,os)) {v:AV} (ht:v.isTuple=false) (h:look t (aA ls vs)=some v):look t s'.dg=some v:=by
 unfold bD at hv;simp only[az,Prod.mk.injEq]at hv;obtain⟨rfl,_⟩:=hv;exact wY ht h
theorem alo {V:Nat} {w:Nat->Nat} (hn:2<=nl V):V=(aD V (nl V-1)*4294967296+aD V (nl V-2))*2^(32*(nl V-2))+val (nl V-2) (aD V)/\
  val (nl V+1) w=((w (nl V)*4294967296+w (nl V-1))*4294967296+w (nl V-2))*2^(32*(nl V-2))+val (nl V-2) w:=by
 obtain⟨k,hk⟩:∃k,nl V=k+2:=⟨nl V-2,aa⟩
 constructor
 ·conv=>lhs;rw[<-gL (N:=V),hk]
  rw[hk,show k+2-1=k+1 by omega,show k+2-2=k by omega,val,val,iV];grind
 ·rw[hk,show k+2-1=k+1 by omega,show k+2-2=k by omega,val,val,val,iV,iV];grind
section pieces
variable {c:Ctx} (h0:∀k x,c.k0 k=some x->k<9) {Q:au->aK->Prop} {lq s lu V j:Nat} {q u:Nat->Nat} {s':aK}
include h0 in
theorem agK (hlu:lu<2^41) (hn:2<=nl V) (hnorm:2^31<=aD V (nl V-1)) (hj:j+nl V<lu) (hjq:j<lq) (hu:∀i,i<lu->u i<2^32) (hW:val (nl V+1) (fun i=>u (j+i))<V*4294967296)
  (fin:∀x u' s',x<4294967296->(∀i,i<lu->u' i<2^32)->(∀i,i<j\/j+nl V<i->u' i=u i)->val (nl V+1) (fun i=>u' (j+i))+x*V=val (nl V+1) (fun i=>u (j+i))->val (nl V+1) (fun i=>u' (j+i))<V->
   bD dJ s'=some (fL lq s lu V j,dy lq lu (cR q j x) u')->Q .normal s'):
  ax P c f202.ntmps ru ⟨aA dJ (fL lq s lu V j),dy lq lu q u,9⟩ Q:=by
 obtain⟨dV,dW⟩:=alo (V:=V) (w:=fun i=>u (j+i)) hn;have hVpos:0<V:=Nat.pos_of_ne_zero (g8.1 aa);have hP:0<2^(32*(nl V-2)):=Nat.two_pow_pos _;have hl1:val (nl V-2) (aD V)<2^(32*(nl V-2)):=gB fun i _=>ec;have hl2:val (nl V-2) (fun i=>u (j+i))<2^(32*(nl V-2)):=gB fun i _=>hu _ aa;have hv1:aD V (nl V-1)<4294967296:=ec;have hv2:aD V (nl V-2)<4294967296:=ec;have u1:=hu (j+nl V) aa;have u2:=hu (j+(nl V-1)) aa;have u3:=hu (j+(nl V-2)) aa;have hq1:val (nl V+1) (fun i=>u (j+i))/V*V<=val (nl V+1) (fun i=>u (j+i)):=Nat.div_mul_le_self _ _;have hq2:val (nl V+1) (fun i=>u (j+i))<(val (nl V+1) (fun i=>u (j+i))/V+1)*V:=by
  rw[Nat.mul_comm];exact Nat.lt_mul_div_succ _ hVpos
 generalize hWd:val (nl V+1) (fun i=>u (j+i))=W at*;generalize hqt:W/V=qt at*;generalize hv1d:aD V (nl V-1)=v1 at*;generalize hv2d:aD V (nl V-2)=v2 at*;obtain⟨top,htop⟩:∃top,u (j+nl V)*4294967296+u (j+(nl V-1))=top:=⟨_,rfl⟩
 rw[htop]at dW;have ktop:=aku hP (by decide) dV dW hv2 hl1 hW;have kini:=WS hP (by decide) dV dW u3 hl2 aa hq1;refine ax.hole [1,1,0] ah (aG.bE hT j8 hm 60 oM aeN ah ?_);have w1:i64.wrap ((nl V:Int)-1)=((nl V-1:Nat):Int):=fz aa aa;have w3:i64.wrap ((j:Int)+(nl V:Int))=((j+nl V:Nat):Int):=fz aa aa;have w4:i64.wrap (((j+nl V:Nat):Int)-1)=((j+nl V-1:Nat):Int):=fz aa aa;rw[w1,w3,w4];simp only[ag.all,ay,bg,Nat.add_zero];have e1:j+nl V-1=j+(nl V-1):=aa;rw[hv1d,e1,cC (x:=(u (j+nl V):Int)) aa aa,v8 u1 u2,htop,cC (x:=(v1:Int)) aa aa];have htb:top<2^64:=aa;have e2:u64.wrap ((top:Int).tdiv (v1:Int))=((top/v1:Nat):Int):=by
  rw[<-Int.ofNat_tdiv];exact cC aa (by have:=Nat.div_le_self top v1;omega)
 have e3:(top:Int).tmod (v1:Int)=((top%v1:Nat):Int):=(Int.ofNat_tmod _ _).symm;rw[e2,e3];have hdm:=Nat.div_add_mod top v1;have hml:=Nat.mod_lt top (show 0<v1 by omega);have hx34:top/v1<2^34:=by
  rw[Nat.div_lt_iff_lt_mul aa];have:2^34*2^31<=2^34*v1:=Nat.mul_le_mul_left _ hnorm;omega
 refine⟨⟨aa,aa,aa,aa,aa⟩,⟨aa,aa,aa,aa⟩,fun s' hv=>?_⟩;have e4:j+nl V-2=j+(nl V-2):=aa;refine ajN (top:=top) (qt:=qt) (v1:=v1) (v2:=v2) (u3:=u (j+(nl V-2))) h0 hlu hn hj hv1d hv2d (by rw[e4]) u3 (by rw[Nat.mul_comm];exact hdm) aa kini hx34 (Zr hq1 hW)
  (fun x rest ht h=>aaU dV dW hl2 ht hq1 h) (fun x rest ht h=>Z4 ht ktop h) hv fun x rest s' hx ht hq hxr hv=>?_
 have kend:=ame hP dV dW aa hl1 hx ht hxr;show aG P c f202.ntmps (behind ru [1,1,0]) s' _;refine aG.k8 (nx:=9) hv h0 ah rfl jx ?_;refine ax.hole [1,0,1] ah (aG.bE hT j8 hm 60 Ac ahr ah fun s' hv=>?_);refine Xv h0 hlu hj hx hu hv fun b cc u' s' hb hc hu' hout hval hv=>?_;show aG P c f202.ntmps (behind vt [1,0,1]) s' _;have hv:=jF (ls:=dJ++[15,17,18]) (l:=[154,155,156]) (vs:=fL lq s lu V j++[.int .u64 (x:Nat),.int .u64 (b:Nat),.int .u64 (cc:Nat)]) hv rfl rfl;refine aG.k8 (nx:=9) hv h0 ah rfl jx ?_;refine ax.hole [1,1,0,1] ah (aG.bE hT j8 hm 60 (dJ++[15,211]) afT ah ?_);rw[w3];simp only[ag.all,ay,bg,Nat.add_zero,beq_iff_eq];have hun:=hu' (j+nl V) aa;have houtn:u' (j+nl V)=u (j+nl V):=hout _ aa;obtain⟨g1,g2⟩:=QV (u:=u' (j+nl V)) (c:=cc) hun hc hb;rw[g1,g2];refine⟨⟨aa,aa⟩,⟨aa,aa⟩,aa,fun s' hv=>?_⟩
 -- the limbs behind the multiplication
 have hWs:W=val (nl V) (fun i=>u (j+i))+u (j+nl V)*2^(32*nl V):=by rw[<-hWd,val]
 have hlow:val (nl V) (fun i=>u' (j+i))<2^(32*nl V):=gB fun i hi=>hu' _ aa;have hVl:V<2^(32*nl V):=nR;have put:∀{x:Nat} {u2:Nat->Nat} {s':aK} {Q':au->aK->Prop},(∀s',Q .normal s'->Q' .normal s')->x<4294967296->(∀i,i<lu->u2 i<2^32)->(∀i,i<j\/j+nl V<i->u2 i=u i)->val (nl V+1) (fun i=>u2 (j+i))+x*V=W->val (nl V+1) (fun i=>u2 (j+i))<V->
   bD (dJ++[15]) s'=some (fL lq s lu V j++[.int .u64 (x:Nat)],dy lq lu q u2)->aG P c f202.ntmps (behind CG [1,1,0,1]) s' Q':=by
  intro x u2 s' Q' hQ hx h1 h2 h3 h4 hv;refine aG.fW hT j8 hm 60 (nx:=9) hv h0 rfl jx dJ Xp ah ah ?_;simp only[ag.all,ay,bg,Nat.add_zero,beq_iff_eq];refine⟨⟨aa,aa⟩,fun s' hv=>hQ _ (fin x u2 s' hx h1 h2 h3 h4 (er hv rfl ?_))⟩;simp only[dy];congr 4;funext k;exact iI (wrap_u32 aa aa) k
 have hset:(fun j_1=>if j_1=j+nl V then AV.int .u32 (((u' (j+nl V)+4294967296-cc-b)%4294967296:Nat):Int)else aB u' j_1)=aB (cR u' (j+nl V) ((u' (j+nl V)+4294967296-cc-b)%4294967296)):=by
  funext k;exact iI rfl k
 rw[hset]at hv;have hval2:val (nl V+1) (fun i=>cR u' (j+nl V) ((u' (j+nl V)+4294967296-cc-b)%4294967296) (j+i))=val (nl V) (fun i=>u' (j+i))+(u' (j+nl V)+4294967296-cc-b)%4294967296*2^(32*nl V):=by
  rw[val,lp,val_congr fun k hk=>gz aa]
 have hrho:=Ap hv (t:=211) (v:=.bool (((if cc+b<=u' (j+nl V)then 0 else 1:Nat):Int)!=0)) rfl rfl;refine ax.cond (P:=P) (c:=c) (nt:=f202.ntmps) (b:=.tmp 211) (x:=tG) (y:=.skip) hrho (fun ht=>?_) (fun ht=>?_)
 ·-- one too many
  have hneg:¬cc+b<=u' (j+nl V):=by
   intro h;rw[if_pos h]at ht;simp at ht
  have hx0:0<x:=by
   rcases Nat.eq_zero_or_pos x with h|h
   ·subst h;rw[Nat.zero_mul]at hval;have h1:0<2^(32*nl V):=Nat.two_pow_pos _;have:val (nl V) (fun i=>u (j+i))=val (nl V) (fun i=>u (j+i)):=rfl;have hc0:cc+b=0:=by
     rcases Nat.eq_zero_or_pos (cc+b)with h|h
     ·exact h
     ·have h2:1*2^(32*nl V)<=(cc+b)*2^(32*nl V):=Nat.mul_le_mul_right _ h;omega
    omega
   ·exact h
  have hv:=jF (ls:=dJ++[15]) (l:=[211]) (vs:=fL lq s lu V j++[.int .u64 (x:Nat)]) hv rfl rfl;have hu2:∀i,i<lu->cR u' (j+nl V) ((u' (j+nl V)+4294967296-cc-b)%4294967296) i<2^32:=jl aa hu';refine ax.k8 (nx:=9) hv h0 rfl jx ?_;refine ax.hole [1,1,0,1] ah (aG.bE hT j8 hm 60 xF akI ah fun s' hv=>?_);have hx1:u64.wrap ((x:Int)-1)=((x-1:Nat):Int):=by rw[cC aa aa];omega
  rw[hx1]at hv;refine afX (x:=x-1) h0 hlu hj hu2 hv fun c2 u3 s' hc2 hu3 hout3 hval3 hv=>?_;have hv:=jF (ls:=dJ++[15,18]) (l:=[214,215,216]) (vs:=fL lq s lu V j++[.int .u64 ((x-1:Nat):Int),.int .u64 (c2:Nat)]) hv rfl rfl;show aG P c f202.ntmps (behind tG [1,1,0,1]) s' _;refine aG.fW hT j8 hm 60 (nx:=9) hv h0 rfl jx (dJ++[15]) ajS ah ah ?_;rw[w3];simp only[ag.all,ay,bg,Nat.add_zero,beq_iff_eq];refine⟨⟨aa,aa,aa,aa⟩,fun s' hv=>?_⟩;have hu3n:=hu3 (j+nl V) aa;have hadd:u32.wrap ((u3 (j+nl V):Int)+u32.wrap (c2:Int))=(((u3 (j+nl V)+c2)%4294967296:Nat):Int):=by
   rw[mI,mI];omega
  rw[hadd]at hv;have hset3:(fun j_1=>if j_1=j+nl V then AV.int .u32 (((u3 (j+nl V)+c2)%4294967296:Nat):Int)else aB u3 j_1)=aB (cR u3 (j+nl V) ((u3 (j+nl V)+c2)%4294967296)):=by
   funext k;exact iI rfl k
  rw[hset3]at hv
  -- the sum
  have h3top:u3 (j+nl V)=(u' (j+nl V)+4294967296-cc-b)%4294967296:=by rw[hout3 _ aa,lp]
  have hlow3:val (nl V) (fun i=>cR u' (j+nl V) ((u' (j+nl V)+4294967296-cc-b)%4294967296) (j+i))=val (nl V) (fun i=>u' (j+i)):=val_congr fun k hk=>gz aa;rw[hlow3]at hval3;have hval4:val (nl V+1) (fun i=>cR u3 (j+nl V) ((u3 (j+nl V)+c2)%4294967296) (j+i))=val (nl V) (fun i=>u3 (j+i))+(u3 (j+nl V)+c2)%4294967296*2^(32*nl V):=by
   rw[val,lp,val_congr fun k hk=>gz aa]
  have hlow4:val (nl V) (fun i=>u3 (j+i))<2^(32*nl V):=gB fun i hi=>hu3 _ aa;have hxV:x*V=(x-1)*V+V:=by
   obtain⟨y,rfl⟩:∃y,x=y+1:=⟨x-1,aa⟩
   simp[Nat.add_mul]
  have hsum:val (nl V) (fun i=>u3 (j+i))+(u3 (j+nl V)+c2)%4294967296*2^(32*nl V)+(x-1)*V=W/\val (nl V) (fun i=>u3 (j+i))+(u3 (j+nl V)+c2)%4294967296*2^(32*nl V)<V:=by
   have hq3:W<x*V:=by
    -- a borrow was left
    have h1:(u (j+nl V)+1)*2^(32*nl V)<=(cc+b)*2^(32*nl V):=Nat.mul_le_mul_right _ aa;rw[Nat.add_mul,Nat.one_mul]at h1;omega
   have hx4:(u3 (j+nl V)+c2)%4294967296*2^(32*nl V)+4294967296*2^(32*nl V)*((u' (j+nl V)+4294967296-cc-b)%4294967296+c2-(u3 (j+nl V)+c2)%4294967296+0)/4294967296=(u3 (j+nl V)+c2)%4294967296*2^(32*nl V)+4294967296*2^(32*nl V)*((u' (j+nl V)+4294967296-cc-b)%4294967296+c2-(u3 (j+nl V)+c2)%4294967296+0)/4294967296:=rfl;clear hx4
   -- the top aD: u' - cc - b + c2, plus 2^32 or not
   rw[h3top];generalize hT1:2^(32*nl V)=T at*;generalize hL0:val (nl V) (fun i=>u (j+i))=L0 at*;generalize hL1:val (nl V) (fun i=>u' (j+i))=L1 at*;generalize hL3:val (nl V) (fun i=>u3 (j+i))=L3 at*;have hT0:0<T:=by rw[<-hT1];exact Nat.two_pow_pos _
   rw[houtn];rw[houtn]at hneg;generalize hUn:u (j+nl V)=Un at*
   -- L3 + c2 T = L1 + V, L1 + x V = L0 + (cc + b) T, W = L0 + Un T, W < x V < W + V
   have hcase:cc+b=Un+1+(cc+b-Un-1):=aa;have hd:cc+b-Un<=c2:=by
    rcases Nat.lt_or_ge c2 (cc+b-Un)with h|h
    ·exfalso;have h5:(Un+c2+1)*T<=(cc+b)*T:=Nat.mul_le_mul_right _ aa;rw[Nat.add_mul,Nat.add_mul,Nat.one_mul]at h5;omega
    ·exact h
   have hc21:c2=1:=aa;have hcb:cc+b=Un+1:=aa;subst hc21;have e5:(Un+4294967296-cc-b)%4294967296=4294967295:=aa;rw[e5];rw[hcb,Nat.add_mul,Nat.one_mul]at hval;simp only[Nat.one_mul]at hval3;constructor
   ·simp;omega
   ·simp;omega
  rw[<-hval4]at hsum;refine put (fun _ h=>h) aa (jl aa hu3) (fun k hk=>?_) hsum.1 hsum.2 hv;rw[gz aa,hout3 k aa,gz aa,hout k aa]
 ·have hpos:cc+b<=u' (j+nl V):=by
   rcases Nat.lt_or_ge (u' (j+nl V)) (cc+b)with h|h
   ·rw[if_neg aa]at ht;simp at ht
   ·exact h
  refine ax.skip ?_;have hv:=jF (ls:=dJ++[15]) (l:=[211]) (vs:=fL lq s lu V j++[.int .u64 (x:Nat)]) hv rfl rfl;have e5:(u' (j+nl V)+4294967296-cc-b)%4294967296=u' (j+nl V)-cc-b:=aa;rw[e5]at hval2 hv;have e6:u (j+nl V)*2^(32*nl V)=(u' (j+nl V)-cc-b)*2^(32*nl V)+(cc+b)*2^(32*nl V):=by
   rw[<-Nat.add_mul];congr 1;omega
  have h7:val (nl V+1) (fun i=>cR u' (j+nl V) (u' (j+nl V)-cc-b) (j+i))+x*V=W:=by
   rw[hval2];omega
  refine put (fun _ h=>h) hx (jl aa hu') (fun k hk=>?_) h7 ?_ hv
  ·rw[gz aa,hout k aa]
  ·have h8:qt*V<=x*V:=Nat.mul_le_mul_right _ hq;rw[Nat.add_mul,Nat.one_mul]at hq2;omega
end pieces
end Go.Am.B
namespace Go.Am.B
open Go Go.Am.N AV Proofs.Tryz IntKind
theorem aG.cat {P:Program} {c:Ctx} {nt:Nat} {Q:au->aK->Prop}:∀{a b:List Code} {s:aK},aG P c nt a s (eH (fun s'=>aG P c nt b s' Q) Q)->aG P c nt (a++b) s Q
 |[],b,s,h=>h
 |x::a,b,s,h=>ax.mono h fun e s' h=>by
  cases e with
  |normal=>exact aG.cat (a:=a) h
  |exit i=>exact h
  |ret=>exact h
theorem aG.chunk {P:Program} {c:Ctx} {nt:Nat} {Q:au->aK->Prop} {l:List Code} {s:aK} (k:Nat) (h:aG P c nt (l.take k) s (eH (fun s'=>aG P c nt (l.drop k) s' Q) Q)):aG P c nt l s Q:=by
 have:=aG.cat h;rwa [List.take_append_drop]at this
theorem Nx {s:Nat} (hB:B≠0) (hs:s=32-bT (aD B (nl B-1))):s<32/\nl (B*2^s)=nl B/\2^31<=aD (B*2^s) (nl B-1)/\B*2^s<2^(32*nl B):=by
 have hp:=g8.2 hB;have htop:=yL hB;have hlt:=ec (N:=B) (i:=nl B-1);have hk:bT (aD B (nl B-1))<=32:=iS.2 hlt;have hk0:0<bT (aD B (nl B-1)):=by unfold bT;rw[if_neg htop];omega
 have h1:aD B (nl B-1)<2^bT (aD B (nl B-1)):=iS.1 bq;have h2:2^(bT (aD B (nl B-1))-1)<=aD B (nl B-1):=by
  rcases Nat.lt_or_ge (aD B (nl B-1)) (2^(bT (aD B (nl B-1))-1))with h|h
  ·have:=iS.2 h;omega
  ·exact h
 have hBd:B=val (nl B-1) (aD B)+aD B (nl B-1)*2^(32*(nl B-1)):=by
  have:=gL (N:=B);obtain⟨k,hk⟩:∃k,nl B=k+1:=⟨nl B-1,aa⟩
  rw[hk,val]at this;rw[hk,Nat.add_sub_cancel];exact this.symm
 have hlow:val (nl B-1) (aD B)<2^(32*(nl B-1)):=gB fun i _=>ec;generalize hb1:aD B (nl B-1)=b1 at*;generalize hkd:bT b1=k at*;generalize hlo:val (nl B-1) (aD B)=low at*;have hT:0<2^(32*(nl B-1)):=Nat.two_pow_pos _;have eT:2^(32*nl B)=2^32*2^(32*(nl B-1)):=by rw[<-Nat.pow_add];congr 1;omega
 have hS:0<2^s:=Nat.two_pow_pos _;have hks:2^k*2^s=2^32:=by rw[<-Nat.pow_add];congr 1;omega
 have hks1:2^(k-1)*2^s=2^31:=by rw[<-Nat.pow_add];congr 1;omega
 have hlo1:2^31<=b1*2^s:=by rw[<-hks1];exact Nat.mul_le_mul_right _ h2
 have hhi1:(b1+1)*2^s<=2^32:=by rw[<-hks];exact Nat.mul_le_mul_right _ h1
 obtain⟨T,hTd⟩:∃T,T=2^(32*(nl B-1)):=⟨_,rfl⟩
 rw[<-hTd]at hT eT hBd hlow;have hVlt:B*2^s<2^32*T:=by
  have a1:B<(b1+1)*T:=by rw[Nat.add_mul,Nat.one_mul];omega
  have a2:B*2^s<(b1+1)*T*2^s:=(Nat.mul_lt_mul_right hS).2 a1;have a3:(b1+1)*T*2^s=(b1+1)*2^s*T:=by rw[Nat.mul_assoc,Nat.mul_comm T,<-Nat.mul_assoc]
  have a4:(b1+1)*2^s*T<=2^32*T:=Nat.mul_le_mul_right _ hhi1;omega
 have hVge:b1*2^s*T<=B*2^s:=by
  have a1:b1*T*2^s<=B*2^s:=Nat.mul_le_mul_right _ aa;have a3:b1*T*2^s=b1*2^s*T:=by rw[Nat.mul_assoc,Nat.mul_comm T,<-Nat.mul_assoc]
  omega
 have hV31:2^31*T<=B*2^s:=Nat.le_trans (Nat.mul_le_mul_right _ hlo1) hVge;refine⟨aa,?_,?_,by rw[eT];exact hVlt⟩
 ·have a1:nl (B*2^s)<=nl B:=dL.2 (by rw[eT];exact hVlt);have a2:¬nl (B*2^s)<=nl B-1:=by
   rw[dL,<-hTd];omega
  omega
 ·unfold aD;rw[<-hTd];have a1:B*2^s/T<2^32:=by rw[Nat.div_lt_iff_lt_mul hT];exact hVlt
  have a2:2^31<=B*2^s/T:=by rw[Nat.le_div_iff_mul_le hT];exact hV31
  rw[Nat.mod_eq_of_lt a1];exact a2
section pieces
variable {c:Ctx} (h0:∀k x,c.k0 k=some x->k<9) {Q:au->aK->Prop} {lq s lu V:Nat} {q u:Nat->Nat} {s':aK}
include h0 in
theorem al0 (hlu:lu=lq+nl V) (hlu2:lu<2^41) (hn:2<=nl V) (hnorm:2^31<=aD V (nl V-1)) (hu:∀i,i<lu->u i<2^32) (hN:val lu u=N) (hlt:N<V*2^(32*lq))
  (hv:bD dJ s'=some (fL lq s lu V ((lq:Int)-1),dy lq lu (fun _=>0) u))
  (fin:∀q u s',(∀i,i<lu->u i<2^32)->(∀i,i<lq->q i<2^32)->val lq q*V+val lu u=N->val lu u<V->bD dJ s'=some (fL lq s lu V (-1),dy lq lu q u)->Q .normal s'):
  ax P c f202.ntmps (part (aE f202) oL) s' Q:=by
 refine ax.iN (i:=1) (y:=zh) ah dJ 9 h0 (fun p:Nat×(Nat->Nat)×(Nat->Nat)=>fL lq s lu V ((p.1:Int)-1)) (fun p=>dy lq lu p.2.1 p.2.2) (fun _=>rfl) (fun _=>jx)
  (fun p=>p.1<=lq/\(∀i,i<lu->p.2.2 i<2^32)/\(∀i,i<lq->p.2.1 i<2^32)/\(∀i,i<p.1->p.2.1 i=0)/\(∀i,p.1+nl V<=i->i<lu->p.2.2 i=0)/\val lq p.2.1*V+val (p.1+nl V) p.2.2=N/\val (p.1+nl V) p.2.2<V*2^(32*p.1))
  (fun p=>p.1) (lq,(fun _=>0),u) hv ⟨by simp,hu,fun i _=>by simp,fun i _=>rfl,fun i h1 h2=>by simp only at h1;omega,?_,?_⟩ ?_
 ·simp only;rw[val_zero fun _ _=>rfl,<-hlu,hN];omega
 ·simp only;rw[<-hlu,hN];exact hlt
 rintro⟨m,q,u⟩ ⟨hm',hu,hq,hq0,hu0,hval,hlt⟩;simp only at hm' hu hq hq0 hu0 hval hlt;refine ax.hole [1,0] ah (aG.bE hT j8 hm 60 dJ TN ah ?_);simp only[ag.all,br,bC];refine⟨fun hb s' hv=>?_,fun hb s' hv=>?_⟩
 ·obtain⟨j,rfl⟩:∃j,m=j+1:=⟨m-1,aa⟩
  have hv:bD dJ s'=some (fL lq s lu V (j:Nat),dy lq lu q u):=er hv (by
   simp only[fL,List.cons.injEq,AV.int.injEq,and_true,true_and];omega) rfl
  have hsplit:=val_add (z:=u) (a:=j) (b:=nl V+1);rw[show j+(nl V+1)=j+1+nl V by omega]at hsplit;have hBj:0<2^(32*j):=Nat.two_pow_pos _;have hW:val (nl V+1) (fun i=>u (j+i))<V*4294967296:=by
   have e:V*2^(32*(j+1))=V*4294967296*2^(32*j):=by rw[iV,Nat.mul_assoc]
   rw[e]at hlt;refine Nat.lt_of_mul_lt_mul_right (a:=2^(32*j)) ?_;omega
  refine ax.qH (i:=2) (y:=ru) ah (ax.k8 (nx:=9) hv h0 rfl jx ?_);refine agK h0 hlu2 hn hnorm aa aa hu hW fun x u' s' hx hu' hout hsum hlt' hv=>?_;show aG P c f202.ntmps (behind zh [1,0]) s' _;refine aG.fW hT j8 hm 60 (nx:=9) hv h0 rfl jx dJ Vv ah ah fun s' hv=>?_;have hjl:val j u'=val j u:=val_congr fun i hi=>hout i aa;have hsplit':=val_add (z:=u') (a:=j) (b:=nl V+1);have hVl:V<2^(32*nl V):=nR;have htop0:u' (j+nl V)=0:=aam (z:=fun i=>u' (j+i)) (n:=nl V) aa;have hsplit2:=val_add (z:=u') (a:=j) (b:=nl V);have hw1:val (nl V+1) (fun i=>u' (j+i))=val (nl V) (fun i=>u' (j+i)):=by rw[val,htop0];simp
  have hjlt:val j u<2^(32*j):=gB fun i hi=>hu i aa;refine⟨(j,cR q j x,u'),er hv ?_ rfl,⟨by simp only;omega,hu',jl hx hq,fun i hi=>?_,fun i h1 h2=>?_,?_,?_⟩,by simp only;omega⟩
  ·simp only[fL,List.cons.injEq,AV.int.injEq,and_true,true_and];rw[wrap_i64 aa aa]
  ·simp only at hi ⊢;rw[gz aa];exact hq0 i aa
  ·simp only at h1;show u' i=0;by_cases hi:i=j+nl V
   ·subst hi;exact htop0
   ·rw[hout i aa];exact hu0 i aa h2
  ·simp only;rw[r6 aa (hq0 j aa),hsplit2,hjl,<-hw1];rw[hsplit,<-hsum]at hval;rw[Nat.add_mul]at hval ⊢;rw[show x*2^(32*j)*V=x*V*2^(32*j) by rw[Nat.mul_assoc,Nat.mul_comm (2^(32*j)),<-Nat.mul_assoc]];omega
  ·simp only;rw[hsplit2,hjl,<-hw1];have:=Nat.mul_le_mul_right (2^(32*j)) hlt';rw[Nat.succ_mul]at this;omega
 ·have hm0:m=0:=aa;subst hm0;refine tc (gk (fin q u s' hu hq ?_ ?_ (er hv rfl rfl)))
  ·rw[nV (k:=0+nl V) aa hu0];exact hval
  ·rw[nV (k:=0+nl V) aa hu0];simpa using hlt
theorem XT {x s:Nat} (h:s<32):(x:Int).fdiv (2^min ((s:Int).toNat) u32.bits)=((x/2^s:Nat):Int):=by
 have:=Ah (x:=x) (s:=(s:Int)) aa aa;simpa using this
theorem YY {b:Nat} (ha:a<2^32) (hb:b<2^32):
  u32.wrap ((BitVec.ofInt u32.bits (a:Int)|||BitVec.ofInt u32.bits (b:Int)).toNat:Int)=((a|||b:Nat):Int):=by
 have e:(BitVec.ofInt u32.bits (a:Int)|||BitVec.ofInt u32.bits (b:Int)).toNat=a|||b:=by
  rw[BitVec.toNat_or,BitVec.ofInt_natCast,BitVec.ofInt_natCast,BitVec.toNat_ofNat,BitVec.toNat_ofNat];rw[show u32.bits=32 from rfl,Nat.mod_eq_of_lt ha,Nat.mod_eq_of_lt hb]
 rw[e];have:a|||b<2^32:=Nat.or_lt_two_pow ha hb
 exact wrap_u32 aa aa
theorem Tv {b s:Nat} (hs:s<32) (ha:a<2^32):u32.wrap ((BitVec.ofInt u32.bits ((a/2^s:Nat):Int)|||BitVec.ofInt u32.bits (u32.wrap ((b:Int)*2^min (32-s) u32.bits))).toNat:Int)=
  ((a/2^s+b%2^s*2^(32-s):Nat):Int):=by
 have hB:2^32=2^s*2^(32-s):=by rw[<-Nat.pow_add];congr 1;omega
 have h1:a/2^s<2^(32-s):=by
  rw[Nat.div_lt_iff_lt_mul (Nat.two_pow_pos _),Nat.mul_comm,<-hB];exact ha
 have e1:u32.wrap ((b:Int)*2^min (32-s) u32.bits)=((b%2^s*2^(32-s):Nat):Int):=by
  rw[show u32.bits=32 from rfl,Nat.min_eq_left aa];rw[show(b:Int)*2^(32-s)=((b*2^(32-s):Nat):Int) by simp,kB];congr 1;rw[hB,Nat.mul_comm (2^s),Nat.mul_comm b,Nat.mul_mod_mul_left,Nat.mul_comm]
 have h2:b%2^s*2^(32-s)<2^32:=by
  rw[hB];exact(Nat.mul_lt_mul_right (Nat.two_pow_pos _)).2 (Nat.mod_lt _ (Nat.two_pow_pos _))
 have h3:a/2^s<2^32:=Nat.lt_of_le_of_lt (Nat.div_le_self _ _) ha;rw[e1,YY h3 h2];congr 1;rw[Nat.or_comm,tQ h1,Nat.add_comm]
abbrev nF:List Nat:=[4,5,9,261,262]
abbrev tN (lq s l i:Nat):List AV:=[.own 8 1 0 lq,.own 7 1 0 l,.int .i64 s,.int .i64 l,.int .i64 (i:Nat)]
include h0 in
theorem adn {R:Nat} (hs:s<32) (hlu:lu<2^41) (hl:nl R=l) (hl2:l<=lu) (hu:∀i,i<lu->u i<2^32) (hR:∀i,i<l->u i=aD R i)
  (hv:bD nF s'=some (tN lq s l 0,dy lq lu q u))
  (fin:∀w s',(∀i,i<lu->w i<2^32)->val l w=R/2^s->bD nF s'=some (tN lq s l l,dy lq lu q w)->Q .normal s'):
  ax P c f202.ntmps (part mo [1,0,1]) s' Q:=by
 refine ax.iN (i:=9) (y:=part mo [1,0,1,0,0]) ah nF 9 h0 (fun p:Nat×(Nat->Nat)=>tN lq s l p.1) (fun p=>dy lq lu q p.2) (fun _=>rfl) (fun _=>jx)
  (fun p=>p.1<=l/\(∀i,i<lu->p.2 i<2^32)/\(∀i,i<p.1->p.2 i=aD (R/2^s) i)/\(∀i,p.1<=i->p.2 i=u i))
  (fun p=>l-p.1) (0,u) hv ⟨by simp,hu,fun i hi=>by simp only at hi;omega,fun i _=>rfl⟩ ?_
 rintro⟨i,w⟩ ⟨hi,hw,hdone,hrest⟩;simp only at hi hw hdone hrest;refine ax.hole [1,1,0] ah (aG.bE hT w8 hm 60 nF abu ah ?_);simp only[ag.all,br,bC];refine⟨fun hb s' hv=>?_,fun hb s' hv=>?_⟩
 ·have hil:i<l:=aa;have hwi:w i=aD R i:=by rw[hrest i aa,hR i hil]
  refine ax.qH (i:=10) (y:=part mo [1,0,1,0,0,1,1,0,0]) ah (ax.k8 (nx:=9) hv h0 rfl jx ?_);refine ax.hole [1,1] ah (aG.bE hT w8 hm 60 [4,5,9,25,261,262] ab7 ah ?_);rw[XT hs];simp only[ag.all,ay,bg,Nat.add_zero,beq_iff_eq];refine⟨⟨aa,aa,aa,aa,aa⟩,fun s' hv=>?_⟩;have hset:(fun j=>if j=i then AV.int .u32 ((w i/2^s:Nat):Int)else aB w j)=aB (cR w i (w i/2^s)):=by
   funext k;exact iI rfl k
  rw[hset]at hv;have hw1:∀k,k<lu->cR w i (w i/2^s) k<2^32:=jl (Nat.lt_of_le_of_lt (Nat.div_le_self _ _) (hw i aa)) hw;have next:∀{w':Nat->Nat} {s':aK} {Q':au->aK->Prop},(∀k,k<lu->w' k<2^32)->w' i=aD (R/2^s) i->(∀k,k≠i->w' k=w k)->bD nF s'=some (tN lq s l i,dy lq lu q w')->
    aG P c f202.ntmps (behind (part mo [1,0,1,0,0]) [1,1,0]) s' (eH (fun s'=>∃k:Nat×(Nat->Nat),bD nF s'=some (tN lq s l k.1,dy lq lu q k.2)/\(k.1<=l/\(∀i,i<lu->k.2 i<2^32)/\(∀i,i<k.1->k.2 i=aD (R/2^s) i)/\(∀i,k.1<=i->k.2 i=u i))/\l-k.1<l-i) Q'):=by
   intro w' s' Q' h1 h2 h3 hv;refine aG.fW hT w8 hm 60 (nx:=9) hv h0 rfl jx nF ajO ah ah fun s' hv=>?_;refine⟨(i+1,w'),er hv ?_ rfl,⟨by simp only;omega,h1,fun k hk=>?_,fun k hk=>?_⟩,by simp only;omega⟩
   ·rw[fz (a:=(i:Int)+1) (n:=i+1) aa aa]
   ·simp only at hk ⊢;by_cases hki:k=i
    ·rw[hki];exact h2
    ·rw[h3 k hki];exact hdone k aa
   ·simp only at hk ⊢;rw[h3 k aa];exact hrest k aa
  refine ax.fW hT w8 hm 60 (nx:=9) hv h0 rfl jx nF ag8 ah ?_;have w1:i64.wrap ((i:Int)+1)=((i+1:Nat):Int):=fz aa aa;have w2:i64.wrap (32-(s:Int))=((32-s:Nat):Int):=fz aa aa;rw[w1,w2];simp only[bg,Nat.add_zero,lp];rw[Tv hs (hw i aa)];have e1:cR w i (w i/2^s) (i+1)=w (i+1):=gz aa;rw[e1];have same:aD R (i+1)%2^s=0->∀{s':aK},bD nF s'=some (tN lq s l i,dy lq lu q (cR w i (w i/2^s)))->∀{Q':au->aK->Prop},aG P c f202.ntmps (behind (part mo [1,0,1,0,0]) [1,1,0]) s' (eH (fun s'=>∃k:Nat×(Nat->Nat),bD nF s'=some (tN lq s l k.1,dy lq lu q k.2)/\(k.1<=l/\(∀i,i<lu->k.2 i<2^32)/\(∀i,i<k.1->k.2 i=aD (R/2^s) i)/\(∀i,k.1<=i->k.2 i=u i))/\l-k.1<l-i) Q'):=by
   intro h s' hv Q';refine next hw1 ?_ (fun k hk=>gz hk) hv
   rw[lp,wT hs,h,hwi];simp
  refine⟨fun h1=>⟨h1,fun h2=>?_,fun h2 s' hv=>?_⟩,fun h1=>⟨h1,fun h2=>by simp at h2,fun h2 s' hv=>?_⟩⟩
  ·have h2':i+1<l:=by
    have:=of_decide_eq_true (show decide (((i+1:Nat):Int)<(l:Int))=true from h2);omega
   simp only[ag.all,ay,beq_iff_eq];refine⟨⟨aa,aa,aa,aa,aa,aa,aa⟩,fun s' hv=>?_⟩;have hset2:(fun j=>if j=i then AV.int .u32 ((w i/2^s+w (i+1)%2^s*2^(32-s):Nat):Int)else aB (cR w i (w i/2^s)) j)=aB (cR w i (w i/2^s+w (i+1)%2^s*2^(32-s))):=by
    funext k;unfold aB cR;by_cases hk:k=i
    ·simp[hk]
    ·simp[hk]
   rw[hset2]at hv;have hwi1:w (i+1)=aD R (i+1):=by rw[hrest _ aa,hR _ h2']
   have hval:w i/2^s+w (i+1)%2^s*2^(32-s)=aD (R/2^s) i:=by rw[wT hs,hwi,hwi1]
   refine next (jl (by rw[hval];exact ec) hw) ?_ (fun k hk=>gz hk) hv
   rw[lp];exact hval
  ·refine same ?_ hv;have h2':¬i+1<l:=by
    have:=of_decide_eq_false (show decide (((i+1:Nat):Int)<(l:Int))=false from h2);omega
   have hR0:R<2^(32*(i+1)):=dL.1 aa;unfold aD;rw[Nat.div_eq_of_lt hR0];simp
  ·have:s=0:=by
    have:=of_decide_eq_false h1;omega
   refine same ?_ hv;subst this;simp[Nat.mod_one]
 ·have hil:i=l:=aa;subst hil;refine tc (gk (fin w s' hw ?_ hv));rw[val_congr hdone,qF];exact Nat.lt_of_le_of_lt (Nat.div_le_self _ _) (dL.1 aa)
end pieces
end Go.Am.B
namespace Go.Am.B
open Go Go.Am.N AV Proofs.Tryz IntKind
abbrev oG (A B:Nat):AV:=.tuple [.mag (A/B),.mag (if B=0 then 0 else A%B),.int .i64 (if B=0 then 3 else 0)]
theorem adQ:eU n (aB (aD N)):=hU fun _ _=>ec
theorem AK {b:Nat}:dw a b<0↔a<b:=by
 unfold dw;split
 ·simp_all
 ·split<;>simp_all
theorem cV {k:aK->Prop} {Q:au->aK->Prop} {s:aK} (h:k s):eH k Q .normal s:=h
theorem aje {c:Ctx} (h0:c.k0=bB) (hA:nl A<2^40) (hn2:2<=nl B) (hAB:B<=A) {Q:au->aK->Prop} {s':aK}
  (hv:bD [0,1,4,5,6] s'=some ([.mag A,.mag B,.nil,.nil,.int .i64 0],[]))
  (fin:∀s lq V s',s<32->V=B*2^s->nl V=nl B->2^31<=aD V (nl V-1)->lq+nl V=nl A+1->(∃ρ,Le c ρ s' ⟨aA dJ (fL lq s (nl A+1) V ((lq:Int)-1)),dy lq (nl A+1) (fun _=>0) (aD (A*2^s)),9⟩)->Q .normal s'):
  aG P c f202.ntmps ((before (aE f202) oL).drop (2+1)) s' Q:=by
 have hk0:∀{nx:Nat} k x,c.k0 k=some x->k<nx:=kO h0;have hABn:nl B<=nl A:=iF hAB;have hB0:B≠0:=fun h=>by subst h;simp[nl]at hn2
 refine aG.chunk 1 (aG.fW hT j8 hm 60 (nx:=0) hv hk0 rfl trivial [0,1,9] Zq ah ah ?_);have w1:i64.wrap ((nl B:Int)-1)=((nl B-1:Nat):Int):=fz aa aa;rw[w1];simp only[ag.all,ay,bg];have hlB:=ec (N:=B) (i:=nl B-1);refine⟨⟨aa,aa⟩,fun s' hv=>cV ?_⟩;obtain⟨s,hs⟩:∃s,s=32-bT (aD B (nl B-1)):=⟨_,rfl⟩
 rw[<-hs]at hv;obtain⟨hs32,hnV,hnorm,hVlt⟩:=Nx hB0 hs;rw[List.drop_drop];refine aG.chunk 1 (aG.fW hT j8 hm 60 (nx:=0) hv hk0 rfl trivial [9,10,11] aaA ah ah ?_);simp only[ag.all,ay,bg,Nat.add_zero];refine⟨⟨aa,aa,aa,aa,aa,aa,adQ,aa⟩,fun s' hv=>cV ?_⟩;have hV1:(val (nl B+1) fun i=>numOf (aB (aD (B*2^s)) i))=B*2^s:=by
  rw[kJ,qF];exact Nat.lt_of_lt_of_le hVlt (Nat.pow_le_pow_right aa aa)
 rw[hV1]at hv;obtain⟨V,hV⟩:∃V,V=B*2^s:=⟨_,rfl⟩
 rw[<-hV]at hv hnV hnorm hVlt;obtain⟨lq,hlq⟩:∃lq,lq=nl A+1-nl V:=⟨_,rfl⟩
 rw[List.drop_drop];refine aG.weak ah (dP (vs:=[.int .i64 s,.own 7 1 0 (nl A+1),.mag V]) (ps:=[(7,⟨true,true,1,nl A+1,aB (aD (A*2^s))⟩)]) (nx:=8) [(7,8192)] hv h0 rfl
  ⟨aM,⟨rfl,cN rfl rfl rfl⟩,aM,trivial⟩ ⟨⟨_,_,rfl,rfl,gn rfl fun j _=>rfl⟩,trivial⟩) ?_
 refine aG.bE hT j8 hm 60 dJ aie ah ?_;have w2:i64.wrap (((nl A+1:Nat):Int)-(nl V:Int))=((lq:Nat):Int):=fz aa aa;have w3:i64.wrap ((lq:Int)-1)=(lq:Int)-1:=wrap_i64 aa aa;rw[w2];simp only[ag.all,ay,bg,w3];exact⟨aa,fun s' hv=>fin s lq V s' hs32 hV hnV (by rw[hnV];exact hnorm) aa (dP (vs:=fL lq s (nl A+1) V ((lq:Int)-1)) (ps:=dy lq (nl A+1) (fun _=>0) (aD (A*2^s))) (nx:=9) [(7,7),(8,28680)] hv h0 rfl
  ⟨⟨rfl,cN rfl rfl rfl⟩,aM,⟨rfl,cN rfl rfl rfl⟩,aM,aM,aM,trivial⟩
  ⟨⟨_,_,rfl,rfl,gn rfl fun j _=>rfl⟩,⟨_,_,rfl,rfl,gn rfl fun j _=>rfl⟩,trivial⟩)⟩
theorem aai {V s lq:Nat} (hs:s<32) (hV:V=B*2^s) (hn2:2<=nl B) (hnV:nl V=nl B) (hnorm:2^31<=aD V (nl V-1)) (hlq:lq+nl V=nl A+1):A*2^s<2^(32*(nl A+1))/\A*2^s<V*2^(32*lq):=by
 have hS:0<2^s:=Nat.two_pow_pos _;have hS31:2^s<=2^31:=Nat.pow_le_pow_right aa aa;have hAl:A<2^(32*nl A):=nR;have hA2:A*2^s<2^(32*nl A)*2^31:=
  Nat.lt_of_lt_of_le ((Nat.mul_lt_mul_right hS).2 hAl) (Nat.mul_le_mul_left _ hS31)
 have hA3:A*2^s<2^(32*(nl A+1)):=by
  rw[iV];omega
 refine⟨hA3,?_⟩;have hsp:V=val (nl V-1) (aD V)+aD V (nl V-1)*2^(32*(nl V-1)):=by
  have:=gL (N:=V);obtain⟨k,hk⟩:∃k,nl V=k+1:=⟨nl V-1,aa⟩
  rw[hk,val]at this;rw[hk,Nat.add_sub_cancel];exact this.symm
 have h2:2^31*2^(32*(nl V-1))<=V:=by
  have:=Nat.mul_le_mul_right (2^(32*(nl V-1))) hnorm;omega
 have h3:=Nat.mul_le_mul_right (2^(32*lq)) h2;have e:2^31*2^(32*(nl V-1))*2^(32*lq)=2^(32*nl A)*2^31:=by
  rw[Nat.mul_assoc,<-Nat.pow_add,Nat.mul_comm];congr 2;omega
 omega
theorem agA {c:Ctx} (h0:∀k x,c.k0 k=some x->k<9) {V s lq:Nat} (hA:nl A<2^40) (hB0:B≠0) (hs:s<32) (hV:V=B*2^s) (hn2:2<=nl B) (hnV:nl V=nl B) (hnorm:2^31<=aD V (nl V-1)) (hlq:lq+nl V=nl A+1):
  ax P c f202.ntmps (part (aE f202) oL) ⟨aA dJ (fL lq s (nl A+1) V ((lq:Int)-1)),dy lq (nl A+1) (fun _=>0) (aD (A*2^s)),9⟩
   (eH (fun s'=>aG P c f202.ntmps (behind (aE f202) oL) s' (Fin T f202 (oG A B))) (Fin T f202 (oG A B))):=by
 obtain⟨z1,z2⟩:=aai (A:=A) hs hV hn2 hnV hnorm hlq;have hS:0<2^s:=Nat.two_pow_pos _;refine al0 (N:=A*2^s) h0 aa aa aa hnorm (fun i _=>ec) (qF z1) z2 rfl fun q u s' hu hq hsum hlt hv=>cV ?_;have hR:val (nl A+1) u=A%B*2^s:=by
  have h1:(A*2^s)%V=val (nl A+1) u:=by
   rw[<-hsum,Nat.mul_comm,Nat.mul_add_mod];exact Nat.mod_eq_of_lt hlt
  rw[<-h1,hV,Nat.mul_mod_mul_right]
 have hQ:val lq q=A/B:=by
  have h1:(A*2^s)/V=val lq q:=by
   rw[<-hsum,Nat.mul_comm,Nat.mul_add_div aa,Nat.div_eq_of_lt hlt];omega
  rw[<-h1,hV,Nat.mul_div_mul_right _ _ hS]
 have hRl:∀i,i<nl (val (nl A+1) u)->u i=aD (val (nl A+1) u) i:=fun i hi=>(qw hu (Nat.lt_of_lt_of_le hi (dL.2 (gB hu)))).symm;refine aG.k8 (nx:=9) hv h0 ah rfl jx ?_;show aG P c f202.ntmps [mo] _ _;refine ax.hole [1,0,1] ah (aG.bE hT w8 hm 60 nF ajV ah ?_);simp only[ag.all,ay,kJ];refine⟨⟨hU hu,trivial,aa⟩,fun s' hv=>cV ?_⟩;refine adn (lu:=nl A+1) (u:=u) h0 hs aa rfl (dL.2 (gB hu)) hu hRl hv fun w s' hw hval hv=>cV ?_;refine aG.mono (Q:=Fin T f202 (oG A B)) (fun e s' h=>by cases e<;>exact h) ?_;refine aG.CI hT iD hm 60 (nx:=9) hv h0 rfl jx adq ah ah ?_;simp only[ag.all,ay,Nat.add_zero,kJ];have hll:nl (val (nl A+1) u)<=nl A+1:=dL.2 (gB hu);refine⟨⟨hU hq,aa,hU fun i hi=>hw i aa,aa⟩,dY (by rw[hQ]),dY ?_,bP (by simp[hB0]),trivial⟩;rw[if_neg hB0,hval,hR,Nat.mul_div_cancel _ hS]
theorem Zo {y:Nat->Nat} (hz:∀i,i<n->z i<2^32) (hy:∀i,i<m->y i<2^32) (hn:n<2^40) (hm':m<2^40) (K:Nat) (pre:aC):
  aQ P 202 K [.ak 1 n (aB z),.ak 1 m (aB y)] pre (aJ (oG (val n z) (val m y)) []):=by
 refine kK hT agq rfl aV rfl (fun _ c h0=>?_) K pre;have hk0:∀{nx:Nat} k x,c.k0 k=some x->k<nx:=kO h0;have hA:nl (val n z)<=n:=dL.2 (gB hz);have hB:nl (val m y)<=m:=dL.2 (gB hy);refine ax.hole oL ah (aG.chunk 2 (aG.bE hT j8 hm 60 [0,1,4,5,6] ak1 ah ?_));simp only[ag.all,ay,kJ];generalize val n z=A at*;generalize val m y=B at*;refine⟨⟨hU hz,aa,hU hy,aa⟩,fun s' hv=>cV ?_⟩;refine aG.chunk 1 (aG.fW hT j8 hm 60 (nx:=0) hv hk0 rfl trivial [0,1,4,5,6] ahS ah ah ?_);simp only[ag.all,ay,beq_iff_eq,beq_eq_false_iff_ne,ne_eq,br,bC,AK];have hnl0:nl B=0↔B=0:=⟨fun h=>by
  rcases Nat.eq_zero_or_pos B with h1|h1
  ·exact h1
  ·have:=g8.2 (show B≠0 by omega);omega,fun h=>by subst h;rfl⟩
 refine⟨fun hb s' hv=>?_,fun hb=>⟨⟨aa,aa⟩,fun hlt=>⟨aa,fun s' hv=>?_⟩,fun hge=>⟨fun h1=>?_,fun h1 s' hv=>cV ?_⟩⟩⟩
 ·have hB0:B=0:=hnl0.1 aa;subst hB0;refine gd (gd ?_);exact iw (us:=[.nil,.nil,.int .i64 3]) (.inr rfl) hv ah ⟨by simpa using lT,lT,bP (by simp),trivial⟩
 ·have hB0:B≠0:=fun h=>hb (by rw[hnl0.2 h];rfl);refine gd (gd ?_);refine iw (us:=[.nil,.mag A,.int .i64 0]) (.inr rfl) hv ah ⟨?_,dY ?_,bP (by simp[hB0]),trivial⟩
  ·rw[Nat.div_eq_of_lt hlt];exact lT
  ·rw[if_neg hB0,Nat.mod_eq_of_lt hlt]
 ·have h1':nl B=1:=aa;have hB0:B≠0:=fun h=>hb (by rw[hnl0.2 h];rfl);have hl0:aD B 0=B:=by
   have:=gL (N:=B);rw[h1',val,val]at this;simpa using this
  have hBlt:B<2^32:=by rw[<-hl0];exact ec
  have hmod:A%B<2^32:=Nat.lt_trans (Nat.mod_lt _ aa) hBlt;simp only[Int.toNat_zero,hl0,bg];have hf:(fun i=>nth [AV.int .u32 ((A%B:Nat):Int)] (.int .u32 0) (i+0))=fun i=>aB (fun i=>if i=0 then A%B else 0) i:=by
   funext i;cases i with
   |zero=>simp[nth,aB]
   |succ i=>simp[nth,aB]
  rw[hf];refine⟨⟨aa,aa,aa,aa⟩,⟨aa,hU (fun i hi=>by split<;>omega),aa⟩,fun s' hv=>gd (gd ?_)⟩;refine iw (vs:=[.mag A,.mag B,.mag (A/B),.mag (A%B),.int .i64 0]) (os:=[]) (us:=[.mag (A/B),.mag (A%B),.int .i64 0]) (.inr rfl) (er hv ?_ rfl) ah ⟨.refl _,dY (by rw[if_neg hB0]),bP (by simp[hB0]),trivial⟩;simp[val,nth,numOf];rw[<-Int.natCast_emod,bg]
 have hB0:B≠0:=fun h=>hb (by rw[hnl0.2 h];rfl);have hn2:2<=nl B:=by have:=g8.2 hB0;omega
 rw[List.drop_drop];refine aje h0 aa hn2 aa hv fun s lq V s' hs hV hnV hnorm hlq hle=>cV ?_;exact ax.jh hle (agA hk0 aa hB0 hs hV hn2 hnV hnorm hlq)
def DU (A n B m:Nat):dI:=aJ (oG A B) [n<2^40,m<2^40]
theorem Lm:aW P (ck (jj DU)) 202:=
 cK (uS fun _ _ _ _ K hz hy need=>Zo hz hy need.1 need.2 K [])
theorem amN:aU 150 f150:=aS func150
def GG:aX:=(202,ck (jj DU))::(201,BV)::(203,ck (mq C2))::(204,HX)::G1
abbrev sS:Code:=part (aE f150) [1,1,1]
theorem yV:bn P GG:=aH Lm (aH II (aH amO (aH Je iD)))
theorem Y5 {y:Nat->Nat}:aI T GG [] 60 [5,6] (before (aE f150) [1,1,0]) ⟨aN 0 [.ak 1 n (aB z),.ak 1 m (aB y)],[],0⟩=
  let b:=val n fun i=>numOf (aB z i);let a:=val m fun i=>numOf (aB y i);some (ag.aj [eU n (aB z),n<2^62,nl b<2^40,eU m (aB y),m<2^62,nl a<2^40] (ag.leaf au.normal ([mag b,mag a],[]))):=ah
theorem amA:aI T GG [23] 60 [5,6] [part (aE f150) [1,1,0,0,0]] ⟨aA [5,6] [.mag X,.mag Y],[],0⟩=
  some (ag.fork (decide ((↑(nl Y):Int)>2)) (ag.aj [nl X<2^40,nl Y<2^40] (ag.leaf au.normal ([mag Y,mag (if Y=0 then 0 else X%Y)],[]))) (ag.leaf (au.exit 0) ([mag X,mag Y],[]))):=ah
theorem aff:aI T GG [35,39] 60 [13,14,4] (before sS [1,1,1,0]) ⟨aA [5,6] [.mag X,.mag Y],[],0⟩=
  let b:=int .u64 (↑Y:Int);let a:=if Y=0 then 0 else X%Y;some (ag.fork ((↑(nl Y):Int)==0) (ag.leaf au.ret ([tuple [],tuple [],mag X],[])) (ag.fork (decide ((↑(nl X):Int)>2)) (ag.aj [nl X<2^40,nl Y<2^40] (ag.aj [nl Y<=2,nl a<=2] (ag.leaf au.normal ([b,int .u64 (↑a:Int),tuple []],[])))) (ag.aj [nl X<=2,nl Y<=2] (ag.leaf au.normal ([int .u64 (↑X:Int),b,tuple []],[]))))):=ah
theorem abh {x:Nat}:aI T GG [54] 60 [13,14] [part sS [1,1,1,0,0,0]] ⟨aA [13,14] [.int .u64 x,.int .u64 y],[],0⟩=
  let a:=(↑y:Int);some (ag.fork (a !=(0:Int)) (ag.aj [a≠(0:Int)] (ag.leaf au.normal ([int .u64 a,int .u64 ((↑x:Int).tmod a)],[]))) (ag.leaf (au.exit 2) ([int .u64 (↑x:Int),int .u64 a],[]))):=ah
theorem VP {x:Nat}:ct T GG [] 60 f150 (behind sS [1,1,1,0]) ⟨aA [13,14] [.int .u64 x,.int .u64 y],[],0⟩=
  some (ag.aj [(0:Int)<=(↑x:Int)/\(↑x:Int)<2^64] (ag.leaf au.ret [mag (↑x:Int).toNat])):=ah
theorem rI (h:nl Y<=2):Y<2^64:=dL.1 h
theorem akV {y:Nat->Nat} (hz:∀i,i<n->z i<2^32) (hy:∀i,i<m->y i<2^32) (hn:n<2^40) (hm':m<2^40) (K:Nat) (pre:aC):
  aQ P 150 K [.ak 1 n (aB z),.ak 1 m (aB y)] pre (aJ (.mag (Nat.gcd (val n z) (val m y))) []):=by
 refine kK hT amN rfl aV rfl (fun _ c h0=>?_) K pre;have hk0:∀{nx:Nat} k x,c.k0 k=some x->k<nx:=kO h0;have hA:nl (val n z)<=n:=dL.2 (gB hz);have hB:nl (val m y)<=m:=dL.2 (gB hy);refine ax.hole [1,1,0] ah (aG.bE hT yV hm 60 [5,6] Y5 ah ?_);simp only[ag.all,ay,kJ];generalize val n z=A at*;generalize val m y=B at*;refine⟨⟨hU hz,aa,aa,hU hy,aa,aa⟩,fun s' hv=>cV ?_⟩;refine ax.iN (i:=0) (y:=part (aE f150) [1,1,0,0,0]) ah [5,6] 0 hk0 (fun p:Nat×Nat=>[.mag p.1,.mag p.2]) (fun _=>[]) (fun _=>rfl) (fun _=>trivial)
  (fun p=>Nat.gcd p.1 p.2=Nat.gcd A B/\nl p.1<2^40/\nl p.2<2^40) (fun p=>p.2) (A,B) hv ⟨rfl,by simp only;omega,by simp only;omega⟩ ?_
 rintro⟨X,Y⟩ ⟨hg,hX,hY⟩;simp only at hg hX hY;refine ax.bE hT yV hm 60 [5,6] amA ah ?_;simp only[ag.all,ay,br,bC];have hstep:∀{X Y:Nat},Y≠0->Nat.gcd Y (X%Y)=Nat.gcd X Y:=fun {X Y} _=>by rw[Nat.gcd_comm X Y,Nat.gcd_rec Y X,Nat.gcd_comm]
 refine⟨fun hb=>⟨⟨hX,hY⟩,fun s' hv=>?_⟩,fun hb s' hv=>gk ?_⟩
 ·have hY0:Y≠0:=g8.1 aa;have hlt:=Nat.mod_lt X (show 0<Y by omega);refine⟨(Y,X%Y),er hv (by rw[if_neg hY0]) rfl,⟨by rw[<-hg];exact hstep hY0,hY,Nat.lt_of_le_of_lt (iF (Nat.le_of_lt hlt)) hY⟩,hlt⟩
 have hY2:nl Y<=2:=aa;refine cV (aG.k8 (nx:=0) hv hk0 ah rfl trivial ?_);show aG P c f150.ntmps [sS] _ _;refine ax.hole [1,1,1,0] ah (aG.bE hT yV hm 60 [13,14,4] aff ah ?_);simp only[ag.all,ay,br,bC,beq_iff_eq,beq_eq_false_iff_ne,ne_eq];have rest:∀{x y:Nat} {s':aK},x<2^64->y<2^64->Nat.gcd x y=Nat.gcd A B->bD [13,14,4] s'=some ([.int .u64 (x:Nat),.int .u64 (y:Nat)]++[.tuple []],[])->
   ax P c f150.ntmps (part sS [1,1,1,0]) s' (eH (fun s'=>aG P c f150.ntmps (behind sS [1,1,1,0]) s' (eH (fun s'=>aG P c f150.ntmps [] s' (Fin T f150 (.mag (Nat.gcd A B)))) (Fin T f150 (.mag (Nat.gcd A B)))))
    (eH (fun s'=>aG P c f150.ntmps [] s' (Fin T f150 (.mag (Nat.gcd A B)))) (Fin T f150 (.mag (Nat.gcd A B))))):=by
  intro x y s' hx hy hg hv;have hv:=jF (ls:=[13,14]) (l:=[4]) (vs:=[.int .u64 (x:Nat),.int .u64 (y:Nat)]) hv rfl rfl;refine ax.iN (i:=2) (y:=part sS [1,1,1,0,0,0]) ah [13,14] 0 hk0 (fun p:Nat×Nat=>[.int .u64 (p.1:Nat),.int .u64 (p.2:Nat)]) (fun _=>[]) (fun _=>rfl) (fun _=>trivial)
   (fun p=>Nat.gcd p.1 p.2=Nat.gcd A B/\p.1<2^64/\p.2<2^64) (fun p=>p.2) (x,y) hv ⟨hg,hx,hy⟩ ?_
  rintro⟨x,y⟩ ⟨hg,hx,hy⟩;simp only at hg hx hy;refine ax.bE hT yV hm 60 [13,14] abh ah ?_;simp only[ag.all,ay,bne_iff_ne,ne_eq,bne_eq_false_iff_eq];refine⟨fun hb=>⟨hb,fun s' hv=>?_⟩,fun hb s' hv=>gk ?_⟩
  ·have hy0:y≠0:=aa;have hlt:=Nat.mod_lt x (show 0<y by omega);exact⟨(y,x%y),er hv (by rw[<-Int.ofNat_tmod]) rfl,⟨by rw[<-hg];exact hstep hy0,hy,by simp only;omega⟩,hlt⟩
  ·have hy0:y=0:=aa;subst hy0;refine cV ?_;refine aG.mono (Q:=Fin T f150 (.mag (Nat.gcd A B))) (fun e s' h=>by cases e<;>exact h) ?_;refine aG.CI hT yV hm 60 (nx:=0) hv hk0 rfl trivial VP ah ah ⟨⟨aa,aa⟩,dY ?_⟩;rw[bg,<-hg,Nat.gcd_zero_right]
 refine⟨fun hb s' hv=>gd (gd ?_),fun hb=>⟨fun h1=>⟨⟨hX,hY⟩,⟨aa,?_⟩,fun s' hv=>cV (rest (rI hY2) ?_ ?_ (er hv rfl rfl))⟩,fun h1=>⟨⟨aa,aa⟩,fun s' hv=>cV (rest (rI aa) (rI hY2) hg (er hv rfl rfl))⟩⟩⟩
 ·have hY0:Y=0:=by
   rcases Nat.eq_zero_or_pos Y with h1|h1
   ·exact h1
   ·have:=g8.2 (show Y≠0 by omega);omega
  refine iw (us:=[.mag X]) (.inr rfl) hv ah (dY ?_);rw[<-hg,hY0,Nat.gcd_zero_right]
 all_goals
  have hY0:Y≠0:=g8.1 aa;have hlt:=Nat.mod_lt X (show 0<Y by omega);rw[if_neg hY0]
 ·exact Nat.le_trans (iF (Nat.le_of_lt hlt)) hY2
 ·exact Nat.lt_trans hlt (rI hY2)
 ·rw[<-hg];exact hstep hY0
def DM (A n B m:Nat):dI:=aJ (.mag (Nat.gcd A B)) [n<2^40,m<2^40]
theorem KO:aW P (ck (jj DM)) 150:=
 cK (uS fun _ _ _ _ K hz hy need=>akV hz hy need.1 need.2 K [])
theorem XM:aU 217 f217:=aS func217
theorem Uw:aI T [] [] 30 [0,3,4] (before (aE f217) [1,1,0,1]) ⟨aN 0 [.ak 1 n (aB z)],[],0⟩=
  some (ag.leaf au.normal ([ak 1 n fun a=>int .u32 (↑(z a):Int),int .u64 (0:Int),int .i64 (i64.wrap ((↑n:Int)-1))],[])):=ah
theorem ajh {k v:Nat}:aI T [] [9] 30 [0,3,4] [part (aE f217) [1,1,0,1,0,0]] ⟨aA [0,3,4] [.ak 1 n (aB z),.int .u64 v,.int .i64 ((k:Int)-1)],[],0⟩=
  let d:=ak 1 n fun a=>int .u32 (↑(z a):Int);let b:=(↑k:Int)-1;some (ag.fork (decide (b>=0)) (ag.aj [(0:Int)<=32,(0:Int)<=b/\b.toNat<n] (ag.leaf au.normal ([d,int .u64 (u64.wrap (↑(BitVec.ofInt u64.bits (u64.wrap ((↑v:Int)*2^min (Int.toNat (32:Int)) u64.bits))|||BitVec.ofInt u64.bits (u64.wrap (↑(z b.toNat):Int))).toNat:Int)),int .i64 (i64.wrap (b-1))],[]))) (ag.leaf (au.exit 0) ([d,int .u64 (↑v:Int),int .i64 b],[]))):=ah
theorem akw {k v:Nat}:ct T [] [] 30 f217 (behind (aE f217) [1,1,0,1]) ⟨aA [0,3,4] [.ak 1 n (aB z),.int .u64 v,.int .i64 ((k:Int)-1)],[],0⟩=
  some (ag.leaf au.ret [int .u64 (↑v:Int)]):=ah
theorem XL (hz:∀i,i<n->z i<2^32) (hn:n<=2) (K:Nat) (pre:aC):aQ P 217 K [.ak 1 n (aB z)] pre (aJ (.int .u64 (val n z:Nat)) []):=by
 refine kK hT XM rfl aV rfl (fun _ c h0=>?_) K pre;refine ax.hole [1,1,0,1] ah (aG.bE hT bw hm 30 [0,3,4] Uw ah ?_);intro s' hv;have hv64:val n z<2^64:=by
  have h1:=gB hz;have h2:2^(32*n)<=2^(32*2):=Nat.pow_le_pow_right aa aa;omega
 refine ax.jr (i:=0) (y:=part (aE f217) [1,1,0,1,0,0]) ah
  (fun p:Nat×Nat=>⟨aA [0,3,4] [.ak 1 n (aB z),.int .u64 (p.2:Nat),.int .i64 ((p.1:Nat)-1:Int)],[],0⟩)
  (fun p=>p.1<=n/\p.2*2^(32*p.1)+val p.1 z=val n z) (fun p=>p.1) (n,0)
  (dP [] hv h0 rfl ⟨aM,aM,⟨rfl,gV (wrap_i64 aa aa)⟩,trivial⟩ trivial) ⟨by simp,by simp⟩ ?_
 rintro⟨k,v⟩ ⟨hk,hval⟩;simp only at hk hval;refine ax.bE hT bw hm 30 [0,3,4] ajh ah ?_;simp only[ag.all,ay,br,bC];refine⟨fun hb=>?_,fun hb s' hv=>?_⟩
 ·obtain⟨j,rfl⟩:∃j,k=j+1:=⟨k-1,aa⟩
  have e:(((j+1:Nat):Int)-1).toNat=j:=aa;have hzj:=hz j aa;have hv32:v<2^32:=by
   rcases Nat.lt_or_ge v (2^32)with h|h
   ·exact h
   ·have h1:2^32*2^(32*(j+1))<=v*2^(32*(j+1)):=Nat.mul_le_mul_right _ h;have h2:2^32<=2^(32*(j+1)):=Nat.pow_le_pow_right aa aa;have h3:2^32*2^32<=2^32*2^(32*(j+1)):=Nat.mul_le_mul_left _ h2;omega
  rw[e];have hor:u64.wrap ((BitVec.ofInt u64.bits (u64.wrap ((v:Int)*2^min (Int.toNat 32) u64.bits))|||BitVec.ofInt u64.bits (u64.wrap (z j:Int))).toNat:Int)=
    ((v*4294967296+z j:Nat):Int):=by
   rw[xQ,cC (x:=(z j:Int)) aa aa,cC (x:=(v:Int)*4294967296) aa aa];rw[show(v:Int)*4294967296=((v*2^32:Nat):Int) by omega,uX aa aa,tQ hzj]
  refine⟨⟨aa,aa,aa⟩,fun s' hv=>⟨(j,v*4294967296+z j),dP [] hv h0 rfl ⟨aM,⟨rfl,gV hor⟩,⟨rfl,gV (by rw[wrap_i64 aa aa];simp only;omega)⟩,trivial⟩ trivial,
   ⟨by simp only;omega,Mb hval⟩,by simp⟩⟩
 ·have hk0:k=0:=aa;subst hk0;have hval:v=val n z:=by simpa [val]using hval
  subst hval;exact aG.weak ah (dP (vs:=[.ak 1 n (aB z),.int .u64 (val n z:Nat),.int .i64 (((0:Nat):Int)-1)]) (ps:=[]) (nx:=0) [] hv h0 rfl ⟨aM,aM,aM,trivial⟩ trivial)
   (aG.fin hT bw hm 30 akw ah (bV.refl _))
theorem TK:aW P (ck (mq C2)) 217:=
 cK (wA fun _ _ K hz need=>XL hz need K [])
theorem ajx:aU 241 f241:=aS func241
theorem afq:aU 242 f242:=aS func242
theorem aks {x:Nat}:aI T [] [] 60 [0,1] (before (aE f241) [1,0]) ⟨aN 0 [.int .u64 x,.int .u64 y],[],0⟩=
  some (ag.leaf au.normal ([int .u64 (↑x:Int),int .u64 (↑y:Int)],[])):=ah
theorem ald {x:Nat}:aI T [] [6] 60 [0,1] [part (aE f241) [1,0,0,0]] ⟨aA [0,1] [.int .u64 x,.int .u64 y],[],0⟩=
  let a:=(↑y:Int);some (ag.fork (a !=(0:Int)) (ag.aj [a≠(0:Int)] (ag.leaf au.normal ([int .u64 a,int .u64 ((↑x:Int).tmod a)],[]))) (ag.leaf (au.exit 0) ([int .u64 (↑x:Int),int .u64 a],[]))):=ah
theorem alO {x:Nat}:ct T [] [] 60 f241 (behind (aE f241) [1,0]) ⟨aA [0,1] [.int .u64 x,.int .u64 y],[],0⟩=
  some (ag.leaf au.ret [int .u64 (↑x:Int)]):=ah
theorem ai8 {s x:Nat}:aI T [] [11] 60 [0,1,4] (before (aE f242) [1,1,1]) ⟨aN 0 [.own 0 1 s n,.int .u64 x],[(0,⟨true,true,1,l,aB z⟩)],1⟩=
  let e:=int .u64 (↑x:Int);let d:=own 0 1 s n;let a:=Int.toNat (0:Int);let b:Nat×aq:=(0,aq.mk true true 1 l fun j=>if(j==a+s)=true then int .u32 (u32.wrap (↑x:Int))else aB z j);some (ag.aj [(0:Int)<=0/\a<n,a+s<l] (ag.aj [(0:Int)<=32] (ag.fork ((↑x:Int).fdiv ((2:Int)^min (Int.toNat (32:Int)) u64.bits)==0) (ag.leaf au.ret ([d,e,int .i64 (1:Int)],[b])) (ag.leaf au.normal ([d,e,int .i64 (0:Int)],[b]))))):=ah
theorem US {s x:Nat}:aI T [] [] 60 [0,1,4] [part (aE f242) [1,1,1]] ⟨aA [0,1,4] [.own 0 1 s n,.int .u64 x,.int .i64 0],[(0,⟨true,true,1,l,aB z⟩)],1⟩=
  let a:=Int.toNat (1:Int);some (ag.aj [(0:Int)<=32,(0:Int)<=1/\a<n,a+s<l] (ag.leaf au.ret ([own 0 1 s n,int .u64 (↑x:Int),int .i64 (2:Int)],[(0,aq.mk true true 1 l fun j=>if(j==a+s)=true then int .u32 (u32.wrap ((↑x:Int).fdiv ((2:Int)^min (Int.toNat (32:Int)) u64.bits)))else aB z j)]))):=ah
theorem ZT {x:Nat} (K:Nat) (pre:aC):aQ P 241 K [.int .u64 x,.int .u64 y] pre (aJ (.int .u64 (Nat.gcd x y:Nat)) []):=by
 refine kK hT ajx rfl aV rfl (fun _ c h0=>?_) K pre;have hk0:∀{nx:Nat} k x,c.k0 k=some x->k<nx:=kO h0;refine ax.hole [1,0] ah (aG.bE hT bw hm 60 [0,1] aks ah fun s' hv=>cV ?_);refine ax.iN (i:=0) (y:=part (aE f241) [1,0,0,0]) ah [0,1] 0 hk0 (fun p:Nat×Nat=>[.int .u64 (p.1:Nat),.int .u64 (p.2:Nat)]) (fun _=>[]) (fun _=>rfl) (fun _=>trivial)
  (fun p=>Nat.gcd p.1 p.2=Nat.gcd x y) (fun p=>p.2) (x,y) hv rfl ?_
 rintro⟨m,n⟩ hg;simp only at hg;refine ax.bE hT bw hm 60 [0,1] ald ah ?_;simp only[ag.all,ay,bne_iff_ne,ne_eq,bne_eq_false_iff_eq];refine⟨fun hb=>⟨hb,fun s' hv=>?_⟩,fun hb s' hv=>gk (cV ?_)⟩
 ·have hlt:=Nat.mod_lt m (show 0<n by omega);refine⟨(n,m%n),er hv (by rw[<-Int.ofNat_tmod]) rfl,?_,hlt⟩;rw[<-hg,Nat.gcd_comm m n,Nat.gcd_rec n m,Nat.gcd_comm]
 ·refine aG.CI hT bw hm 60 (nx:=0) hv hk0 rfl trivial alO ah ah (bP ?_);have:n=0:=aa;rw[<-hg,this,Nat.gcd_zero_right]
def PF:Spec:=ck fun l=>match l with
 |[.int .u64 x,.int .u64 y]=>some (aJ (.int .u64 (Nat.gcd x.toNat y.toNat:Nat)) [0<=x,0<=y])
 |_=>none
theorem VD:aW P PF 241:=by
 refine cK fun K args r hk hs _=>?_;split at hs
 ·rename_i x y;simp only[az]at hs;subst hs;intro need;obtain⟨h1,h2⟩:0<=x/\0<=y:=need;obtain⟨a,rfl⟩:=Int.eq_ofNat_of_zero_le h1;obtain⟨b,rfl⟩:=Int.eq_ofNat_of_zero_le h2;exact ZT K [] trivial
 ·simp at hs
def iP (z:Nat->Nat) (s x:Nat):Nat->Nat:=fun i=>if i=s then x%4294967296 else if i=s+1/\4294967296<=x then x/4294967296 else z i
def gi (x:Nat):Nat:=if x<4294967296 then 1 else 2
theorem aj3 {k s x:Nat} {f:Nat->AV} (hx:x<2^64) (h1:gi x<=n) (hs:s+n<=l) (hf:∀i,i<l->f i=aB z i) (K:Nat):
  aQ P 242 K [.own k 1 s n,.int .u64 x] [(k,⟨true,true,1,l,f⟩)] ⟨.int .i64 (gi x:Nat),[(k,⟨true,true,1,l,aB (iP z s x)⟩)],[]⟩:=by
 refine nv hT afq (args0:=[.own 0 1 s n,.int .u64 x]) (pre0:=[(0,⟨true,true,1,l,aB z⟩)]) (nx:=1) [(0,k)] aV (by simp[jb]) ⟨⟨rfl,cN rfl rfl rfl⟩,aM,trivial⟩ ⟨⟨k,_,rfl,by simp[look],gn rfl hf⟩,trivial⟩
  (fun a x h=>?_) (fun x o h=>?_) (fun _ c h0=>?_)
 ·simp only[bk,look]at h;split at h
  ·simp only[az]at h;subst h;exact⟨_,by simp[look];rfl⟩
  ·simp at h
 ·simp only[look]at h;split at h
  ·rename_i he;have:k=x:=by simpa using he
   subst this;exact .inl ⟨_,by simp[look];rfl⟩
  ·simp at h
 have hk0:∀k x,c.k0 k=some x->k<1:=fun k x hk=>by
  have:=h0 k x hk;simp only[bk,look]at this;split at this
  ·rename_i h;simp at h;omega
  ·simp at this
 have key:∀{s':aK} {v:Int} {w:Nat->Nat},bD [0,1,4] s'=some ([.own 0 1 s n,.int .u64 x,.int .i64 v],[(0,⟨true,true,1,l,aB w⟩)])->v=(gi x:Nat)->w=iP z s x->
   ∃τ,vW [(0,k)] K [(k,⟨true,true,1,l,f⟩)] τ/\(AL T f242 τ [(k,⟨true,true,1,l,f⟩)] ⟨.int .i64 (gi x:Nat),[(k,⟨true,true,1,l,aB (iP z s x)⟩)],[]⟩ s'\/v7 T f242 τ [(k,⟨true,true,1,l,f⟩)] ⟨.int .i64 (gi x:Nat),[(k,⟨true,true,1,l,aB (iP z s x)⟩)],[]⟩ s'):=by
  intro s' v w hv hv1 hw;refine⟨bk [(k,0)],tL,.inr (uN (vs:=[.own 0 1 s n,.int .u64 x,.int .i64 v]) (us:=[.int .i64 v]) (ws:=[.int .i64 (gi x:Nat)]) (os:=[(0,⟨true,true,1,l,aB w⟩)]) (ps:=[(k,⟨true,true,1,l,aB (iP z s x)⟩)]) hv ah ⟨⟨rfl,gV hv1⟩,trivial⟩ rfl (by simp[cY,fG,put]) ⟨⟨0,_,by simp[bk,look],rfl,gn rfl fun i hi=>by rw[hw]⟩,trivial⟩)⟩
 have h12:gi x=1\/gi x=2:=by unfold gi;split<;>simp
 have hset1:(fun j=>if j=s then AV.int .u32 (u32.wrap (x:Int))else aB z j)=aB (cR z s (x%4294967296)):=by
  funext j;exact iI (by rw[kB]) j
 refine ax.hole [1,1,1] ah (aG.bE hT bw hm 60 [0,1,4] ai8 ah ?_);simp only[ag.all,ay,beq_iff_eq,beq_eq_false_iff_ne,ne_eq,mW,Int.toNat_zero,Nat.zero_add,hset1];refine⟨⟨aa,aa⟩,aa,fun hb s' hv=>?_,fun hb s' hv=>cV ?_⟩
 ·have hlt:x<4294967296:=aa;refine gd ⟨.inr rfl,key hv (by unfold gi;rw[if_pos hlt];rfl) ?_⟩;funext i;unfold cR iP;by_cases h:i=s
  ·simp[h]
  ·simp[h];omega
 ·have hge:4294967296<=x:=aa;have h2:gi x=2:=by unfold gi;rw[if_neg aa]
  refine ax.fW hT bw hm 60 (nx:=1) hv hk0 rfl ⟨⟨aa,fun _ _=>rfl⟩,trivial⟩ [0,1,4] US ah ?_;simp only[ag.all,ay,beq_iff_eq,beq_eq_false_iff_ne,ne_eq,mW,show Int.toNat 1=1 from rfl];refine⟨⟨aa,aa,aa⟩,fun s' hv=>?_⟩;have hset2:(fun j=>if j=1+s then AV.int .u32 (u32.wrap ((x:Int)/4294967296))else aB (cR z s (x%4294967296)) j)=aB (cR (cR z s (x%4294967296)) (1+s) (x/4294967296)):=by
   funext j;exact iI (by rw[wrap_u32 aa aa];omega) j
  rw[hset2]at hv;refine gd ⟨.inr rfl,key hv (by rw[h2];rfl) ?_⟩;funext i;unfold cR iP;by_cases h:i=s
  ·simp[h]
  ·by_cases h':i=1+s
   ·simp[h',hge,Nat.add_comm]
   ·simp[h,h'];omega
def Hx:Spec:=fun _ args pre=>match args,pre with
 |[.own k es s n,.int .u64 x],[(k',o)]=>if k==k'&&es==1&&o.row&&o.wr&&o.es==1 then some ⟨.int .i64 (gi x.toNat:Nat),[(k,⟨true,true,1,o.len,aB (iP (fun i=>numOf (o.f i)) s x.toNat)⟩)],[eU o.len o.f,0<=x/\x<2^64,gi x.toNat<=n,s+n<=o.len]⟩else none
 |_,_=>none
theorem akA:aW P Hx 242:=by
 intro K args pre r hs;unfold Hx at hs;split at hs
 ·rename_i k es s n x k' o;split at hs
  ·rename_i hc;simp only[Bool.and_eq_true,beq_iff_eq]at hc;obtain⟨⟨⟨⟨rfl,rfl⟩,h4⟩,h5⟩,h6⟩:=hc;simp only[az]at hs;subst hs;intro need;obtain⟨h1,⟨h2,h2'⟩,h3,h7⟩:eU o.len o.f/\(0<=x/\x<2^64)/\gi x.toNat<=n/\s+n<=o.len:=need;obtain⟨row,wr,es,len,f⟩:=o;simp only at h1 h4 h5 h6 h7;subst h4 h5 h6;obtain⟨x,rfl⟩:=Int.eq_ofNat_of_zero_le h2;refine aj3 (z:=fun i=>numOf (f i)) aa h3 h7 (fun i hi=>?_) K trivial;obtain⟨z,g1,g2⟩:=h1 i hi;simp[g2,numOf,aB]
  ·simp at hs
 ·simp at hs
def PN:Spec:=ck fun l=>match l with
 |[.int .u64 x,.int .u64 y,.int .u64 z]=>some (aJ (.tuple [.int .u64 ((x+y+z)%18446744073709551616),.int .u64 ((x+y+z)/18446744073709551616)]) [0<=x,0<=y,0<=z/\z<=1])
 |_=>none
theorem T2:aW P PN 211:=by
 refine cK fun K args r hk hs _=>?_;split at hs
 ·rename_i x y z;simp only[az]at hs;subst hs;intro need;obtain⟨h1,h2,h3,h4⟩:0<=x/\0<=y/\0<=z/\z<=1:=need;refine⟨fun k o h=>by simp[look]at h,fun c D D' β w vs hw0 hMw hrel hD hK hv=>.inr ?_⟩
  match vs,hv with
  |[a,b,d],hv=>
   obtain⟨ha,hb,hd,_⟩:=hv;have ha:=(ha.bW).int;have hb:=(hb.bW).int;have hd:=(hd.bW).int;subst ha hb hd;refine⟨.tuple #[.int .u64 ((x+y+z)%18446744073709551616),.int .u64 ((x+y+z)/18446744073709551616)],?_,β,?_,dm.refl _ _ _,[_,_],rfl,.cF (.int .nil) rfl,.cF (.int .nil) rfl,trivial⟩
   ·rw[run_callFunc_extern (e:=add64Entry) func211 ah ah ah (by rfl)];rw[run_add64 x y z h1 h2 h3 h4];rfl
   ·exact hrel.mU hD
 ·simp at hs
theorem abS:aU 212 f212:=aS func212
theorem Wi:aU 205 f205:=aS func205
def GS:aX:=[(241,PF),(242,Hx)]
theorem aei {d:Nat}:bX T GS [13,35] 60 f212 (aE f212) ⟨aN 0 [.bool b,.int .u64 n,.int .u64 d],[],0⟩=
  let j:=(↑n:Int);let k:=mag 0;let q:=int .u32 (0:Int);let h:=Int.toNat (0:Int);let f:=0<1;let o:=Int.toNat (4:Int);let a:=(↑o:Int);let t:=numOf q;let s:=(↑(j.toNat.gcd (↑d:Int).toNat):Int);let u:=u64.wrap (j.tdiv s);let m:=u64.wrap ((↑d:Int).tdiv s);let p:=u.toNat;let e:=(↑(gi p):Int);let l:=(0:Int)<=e;let g:=0+e.toNat;let r:=i64.wrap (e+(↑(gi m.toNat):Int));some (ag.fork (j==0) (ag.aj [f] (ag.aj [f] (ag.leaf au.ret [agg [AV.bool false,k,k]]))) (ag.aj [(0:Int)<=j,(0:Int)<=(↑d:Int)] (ag.aj [s≠(0:Int),s≠(0:Int)] (ag.aj [(0:Int)<=4/\(4:Int)<=4/\(4:Int)<=2^47/\(4:Int)*(↑(4:Nat):Int)<=2^47] (ag.aj [eU o fun x=>q,(0:Int)<=u/\u<2^64,gi p<=o,(0:Nat)+o<=o] (ag.aj [(0:Int)<=0/\l/\e<=e/\e<=a,f] (ag.fork (decide (m>1)) (ag.aj [l/\e<=a/\a<=a/\a<=a,eU o (aB (iP (fun i=>t) 0 p)),(0:Int)<=m/\m<2^64,gi m.toNat<=a.toNat-e.toNat,g+(a.toNat-e.toNat)<=o] (ag.aj [l/\e<=r/\r<=r/\r<=a,f] (ag.aj [f,f] (ag.aj [f] (ag.leaf au.ret [agg [AV.bool b,ak 1 (e.toNat-h) fun i=>int .u32 (↑(iP (fun i=>numOf (aB (iP (fun i=>t) 0 p) i)) g m.toNat (i+((0:Nat)+h))):Int),ak 1 (r.toNat-e.toNat) fun i=>int .u32 (↑(iP (fun i=>numOf (aB (iP (fun i=>t) 0 p) i)) g m.toNat (i+g)):Int)]]))))) (ag.aj [f,f] (ag.aj [f] (ag.leaf au.ret [agg [AV.bool b,ak 1 (e.toNat-h) fun i=>int .u32 (↑(iP (fun i=>t) 0 p (i+((0:Nat)+h))):Int),k]])))))))))):=ah
theorem TS:bX T [] [] 60 f205 (aE f205) ⟨[],[],0⟩=
  some (ag.aj [(1:Nat)*1<=2^24] (ag.leaf au.ret [ak 1 1 fun i=>nth [int .u32 (1:Int)] (int .u32 (0:Int)) (i+0)])):=ah
theorem aat:bn P GS:=aH VD (aH akA bw)
theorem GX {x:Nat} (h0:x≠0) (hx:x<2^64):nl x=gi x:=by
 have h1:=g8.2 h0;have h2:nl x<=2:=dL.2 hx;unfold gi;split
 ·have:nl x<=1:=dL.2 aa;omega
 ·have:¬nl x<=1:=by rw[dL];omega
  omega
theorem DF {s x i:Nat} (hx:x<2^64) (hi:i<gi x):iP z s x (i+s)=aD x i:=by
 unfold gi at hi;unfold iP aD;by_cases h:i=0
 ·subst h;simp
 ·have h1:i=1:=by split at hi<;>omega
  subst h1;have h2:4294967296<=x:=by split at hi<;>omega
  rw[if_neg aa,if_pos ⟨aa,h2⟩];simp only[Nat.mul_one];exact(Nat.mod_eq_of_lt aa).symm
theorem amd {s x i:Nat} (hi:i<s):iP z s x i=z i:=by
 unfold iP;rw[if_neg aa,if_neg aa]
theorem Zk {s x:Nat} (hx:x<2^64) (hz:∀i,i<n->z i<2^32):∀i,i<n->iP z s x i<2^32:=fun i hi=>by
 unfold iP;have:=hz i hi;split
 ·omega
 ·split<;>omega
theorem Z0 {d:Nat} (hn:n<2^64) (hd:d<2^64) (hd0:d≠0) (K:Nat) (pre:aC):aQ P 212 K [.bool b,.int .u64 n,.int .u64 d] pre (aJ (.rat (sQ b n d) (dj (sQ b n d))) []):=by
 refine b9 hT aat hm abS rfl aV rfl 60 aei (fun _=>?_) K pre;obtain⟨g,hg⟩:∃g,g=Nat.gcd n d:=⟨_,rfl⟩
 simp only[bg,<-hg,show Int.toNat 4=4 from rfl,Int.toNat_zero,Nat.zero_add,Nat.add_zero,Nat.sub_zero];have hg0:0<g:=by rw[hg];exact Nat.gcd_pos_of_pos_right _ aa
 have hgn:g∣n:=by rw[hg];exact Nat.gcd_dvd_left _ _
 have hgd:g∣d:=by rw[hg];exact Nat.gcd_dvd_right _ _
 have hN:n/g<2^64:=Nat.lt_of_le_of_lt (Nat.div_le_self _ _) hn;have hD:d/g<2^64:=Nat.lt_of_le_of_lt (Nat.div_le_self _ _) hd;have hD0:0<d/g:=Nat.div_pos (Nat.le_of_dvd aa hgd) hg0;have hN0:n≠0->0<n/g:=fun h=>Nat.div_pos (Nat.le_of_dvd aa hgn) hg0;have e1:u64.wrap ((n:Int).tdiv (g:Int))=((n/g:Nat):Int):=by
  rw[<-Int.ofNat_tdiv,wX,Nat.mod_eq_of_lt hN]
 have e2:u64.wrap ((d:Int).tdiv (g:Int))=((d/g:Nat):Int):=by
  rw[<-Int.ofNat_tdiv,wX,Nat.mod_eq_of_lt hD]
 rw[e1,e2];clear e1 e2;have f1:n/g=n/Nat.gcd n d:=by rw[hg]
 have f2:d/g=d/Nat.gcd n d:=by rw[hg]
 generalize n/g=N at*;generalize d/g=D at*;simp only[bg];have hnl:∀x,gi x=1\/gi x=2:=fun x=>by unfold gi;split<;>simp
 have l1:=hnl N;have l2:=hnl D;have w1:i64.wrap ((gi N:Int)+(gi D:Int))=((gi N+gi D:Nat):Int):=by rw[wrap_i64 aa aa];omega
 rw[w1];simp only[ag.all,ay,beq_iff_eq,beq_eq_false_iff_ne,ne_eq,br,bC,bg];have hsz:Sz (sQ b n d) (dj (sQ b n d)):=Aw;refine⟨fun hb=>⟨aa,aa,?_⟩,fun hb=>⟨⟨aa,aa⟩,⟨aa,aa⟩,aa,⟨?_,aa,aa,aa⟩,⟨aa,aa⟩,fun hc=>⟨⟨aa,?_,aa,aa,aa⟩,⟨aa,aa⟩,⟨aa,aa⟩,aa,?_⟩,fun hc=>⟨⟨aa,aa⟩,aa,?_⟩⟩⟩
 ·have hn0:n=0:=aa;have:sQ b n d=0:=by rw[hn0,Fu]
  rw[this];exact jB
 ·exact fun i hi=>⟨0,aa,rfl⟩
 ·refine hU (Zk hN fun i hi=>?_);simp[numOf]
 ·have hn0:n≠0:=aa;have hN0:=hN0 hn0;refine bV.trans (cM (vs:=[.bool b,.mag N,.mag D]) ⟨.refl _,mu (GX aa hN) fun i hi=>?_,mu ?_ fun i hi=>?_,trivial⟩) (uC hn0 hd0 f1 ?_ hsz)
  ·show aB _ _=_;unfold aB;rw[amd hi,<-DF (s:=0) (z:=fun i=>numOf (AV.int .u32 0)) hN hi];rfl
  ·rw[GX aa hD];omega
  ·show aB _ _=_;unfold aB;rw[DF hD aa]
  ·rw[<-f2,if_neg aa]
 ·have hn0:n≠0:=aa;have hN0:=hN0 hn0;refine bV.trans (cM (vs:=[.bool b,.mag N,.mag 0]) ⟨.refl _,mu (GX aa hN) fun i hi=>?_,.refl _,trivial⟩) (uC hn0 hd0 f1 ?_ hsz)
  ·show aB _ _=_;unfold aB;rw[<-DF (s:=0) (z:=fun i=>numOf (AV.int .u32 0)) hN hi];rfl
  ·rw[<-f2,if_pos aa]
def HP:Spec:=ck fun l=>match l with
 |[.bool b,.int .u64 n,.int .u64 d]=>some (aJ (.rat (sQ b n.toNat d.toNat) (dj (sQ b n.toNat d.toNat))) [0<=n/\n<2^64,0<d/\d<2^64])
 |_=>none
theorem LJ:aW P HP 212:=by
 refine cK fun K args r hk hs _=>?_;split at hs
 ·rename_i b n d;simp only[az]at hs;subst hs;intro need;obtain⟨⟨h1,h2⟩,h3,h4⟩:(0<=n/\n<2^64)/\0<d/\d<2^64:=need;obtain⟨n,rfl⟩:=Int.eq_ofNat_of_zero_le h1;obtain⟨d,rfl⟩:=Int.eq_ofNat_of_zero_le (Int.le_of_lt h3);exact Z0 aa aa aa K [] trivial
 ·simp at hs
theorem Wk (K:Nat) (pre:aC):aQ P 205 K [] pre (aJ (.mag 1) []):=by
 refine b9 (T:=T) hT bw hm Wi rfl aV rfl 60 TS (fun _=>?_) K pre;refine⟨by simp[ay],mu (by decide) fun i hi=>?_⟩;have:i=0:=aa;subst this;rfl
def Fk:Spec:=ck fun l=>match l with
 |[]=>some (aJ (.mag 1) [])
 |_=>none
theorem IX:aW P Fk 205:=by
 refine cK fun K args r hk hs _=>?_;split at hs
 ·simp only[az]at hs;subst hs;exact Wk K []
 ·simp at hs
theorem St:aU 155 f155:=aS func155
theorem amo:aU 168 f168:=aS func168
theorem abw:aU 213 f213:=aS func213
theorem aeF:aU 63 f63:=aS func63
theorem agY:aU 79 f79:=aS func79
theorem X7:aU 197 f197:=aS func197
theorem aci:aU 245 f245:=aS func245
def GR:aX:=(149,ck (mq FA))::(217,ck (mq C2))::(212,HP)::(150,ck (jj DM))::(202,ck (jj DU))::(214,ck (jj Fg))::(205,Fk)::(142,Fp)::(201,BV)::(204,HX)::[]
theorem oH:bn P GR:=aH Kx (aH TK (aH LJ (aH KO (aH Lm (aH Lr (aH IX (aH RT (aH II (aH Je bw)))))))))
theorem amG {q:Rat}:bX T GR [6] 60 f155 (aE f155) ⟨aN 0 [.rat q n],[],0⟩=
  let a:=if q.den=1 then 0 else q.den;some (ag.aj [(0:Nat)<1] (ag.fork ((↑(nl a):Int)==0) (ag.leaf au.ret [mag 1]) (ag.aj [(0:Nat)<1] (ag.leaf au.ret [mag a])))):=ah
theorem Sw {q:Rat}:bX T GR [9,14,18] 60 f168 (aE f168) ⟨aN 0 [.rat q n],[],0⟩=
  let d:=int .u64 (0:Int);let e:=q.num.natAbs;let a:=0<1;let f:=if q.den=1 then 0 else q.den;let b:=int .u64 (↑e:Int);let k:=(↑(nl f):Int);let j:=u64.wrap (↑(aD f (Int.toNat (0:Int))):Int);let i:ag (List AV):=ag.leaf au.ret [d,d,AV.bool false];let l:=(↑(nl e):Int);let g:=decide (l>1);let h:ag (List AV):=ag.aj [a] (ag.fork (k==1) (ag.aj [a,(0:Int)<=0/\Int.toNat (0:Int)<nl f] (ag.aj [a,nl e<=2] (ag.leaf au.ret [b,int .u64 j,AV.bool (j !=(0:Int))]))) (ag.aj [a,nl e<=2] (ag.leaf au.ret [b,int .u64 (1:Int),AV.bool true])));some (ag.fork g (ag.aj [a,g=true] (ag.fork true i h)) (ag.aj [a,g=false,a] (ag.fork (bif false then true else decide (k>1)) i h))):=ah
theorem aiR {q:Rat}:bX T GR [10,17] 60 f63 (aE f63) ⟨aN 0 [.rat q n,.rat r m],[],0⟩=
  let h:=q.num.natAbs;let g:=r.num.natAbs;let b:=2^40;let e:=decide (q<0)==decide (r<0);let j:=if q.den=1 then 0 else q.den;let i:=if r.den=1 then 0 else r.den;let a:=0<1;let d:=[a,a,nl j<b,nl i<b];let k:ag (List AV):=ag.leaf au.ret [AV.bool (bif true then decide (j=i)else false)];let f:=bif true then decide (h=g)else false;some (ag.fork e (ag.fork f (ag.aj (a::a::(e=true)::a::a::(nl h<b)::(nl g<b)::(f=true)::d) k) (ag.aj [a,a,e=true,a,a,nl h<b,nl g<b,f=false] (ag.leaf au.ret [AV.bool false]))) (ag.fork false (ag.aj (a::a::(e=false)::(false=true)::d) k) (ag.aj [a,a,e=false,false=false] (ag.leaf au.ret [AV.bool false])))):=ah
theorem aa4 {q:Rat}:bX T GR [3,8] 60 f79 (aE f79) ⟨aN 0 [.rat q n],[],0⟩=
  some (ag.aj [(0:Nat)<1,nl q.num.natAbs<2^40] (ag.fork ((↑(bT q.num.natAbs):Int)==0) (ag.leaf au.ret [int .i64 (0:Int)]) (ag.aj [(0:Nat)<1] (ag.fork (decide (q<0)) (ag.leaf au.ret [int .i64 (-1:Int)]) (ag.leaf au.ret [int .i64 (1:Int)]))))):=ah
theorem acs {q:Rat}:bX T GR [] 60 f197 (aE f197) ⟨aN 0 [.rat q n],[],0⟩=
  let b:=if q.den=1 then 0 else q.den;let a:=0<1;some (ag.aj [a,a,nl q.num.natAbs<2^40,a,nl b<2^40,a] (ag.aj [a] (ag.leaf au.ret [agg [AV.bool (decide (q<0)),mag q.num.natAbs,mag b]]))):=ah
theorem ab9 {n:Int}:bX T GR [4] 60 f245 (aE f245) ⟨aN 0 [.int .i64 n],[],0⟩=
  let b:=i64.wrap ((0:Int)-n);let a:=u64.wrap (if n<b then b else n);some (ag.fork (n==(-9223372036854775808:Int)) (ag.aj [(0:Int)<=9223372036854775808/\(9223372036854775808:Int)<2^64] (ag.leaf au.ret [mag 9223372036854775808])) (ag.aj [(0:Int)<=a/\a<2^64] (ag.leaf au.ret [mag a.toNat]))):=ah
abbrev k9:List Nat:=[0,1,2,6]
abbrev qE (b:Bool) (N D:Nat):List AV:=[.bool b,.mag N,.mag D,.ptr 0 0 3 0 []]
abbrev tC:aC:=[(0,⟨false,true,3,1,fun _=>.rat 0 1⟩)]
theorem ahE:aI T GR [11,15] 60 k9 ((before (aE f213) [1,1,1,1]).take 2) ⟨aN 0 [.bool b,.mag N,.mag D],[],0⟩=
  let e:=2^40;let d:=rat 0 1;let a:=(↑(bT N):Int)==0;let h:=[AV.bool b,mag N,mag D,ptr 0 0 3 0 []];let g:ag (List AV×aC):=ag.leaf au.normal (h,[(0,aq.mk false true 3 1 fun x=>d)]);let f:ag (List AV×aC):=ag.aj [(0:Nat)<1] (ag.leaf au.ret (h,[(0,aq.mk false true 3 1 fun j=>if(j==0)=true then bp (agg d.kids)else d)]));some (ag.fork a (ag.aj [nl N<e,a=true] (ag.fork true f g)) (ag.aj [nl N<e,a=false,nl D<e] (ag.fork (bif false then true else(↑(bT D):Int)==0) f g))):=ah
theorem Qc:kM T f213 .ret ⟨aA k9 (qE b N D),[(0,⟨false,true,3,1,fun j=>if j=0 then bp (.agg (AV.kids (.rat 0 1)))else .rat 0 1⟩)],1⟩=
  some (ag.aj [(0:Nat)<1] (ag.leaf au.ret [agg [AV.bool false,mag 0,mag 0]])):=ah
theorem aa8 {q:Rat} {k:Nat}:kM T f213 .ret ⟨aA k9 (qE b N D),[(0,⟨false,true,3,1,fun j=>if j=0 then bp (.rat q k)else .rat 0 1⟩)],1⟩=
  some (ag.aj [(0:Nat)<1] (ag.leaf au.ret [rat q k])):=ah
theorem Uo:aI T GR [20,24] 60 k9 (((before (aE f213) [1,1,1,1]).drop 2).take 1) ⟨aA k9 (qE b N D),tC,1⟩=
  let h:=rat 0 1;let g:=sQ b (↑N:Int).toNat (↑D:Int).toNat;let a:=decide ((↑(nl N):Int)<=2);let f:=[AV.bool b,mag N,mag D,ptr 0 0 3 0 []];let e:ag (List AV×aC):=ag.leaf au.normal (f,[(0,aq.mk false true 3 1 fun x=>h)]);let d:ag (List AV×aC):=ag.aj [nl N<=2,nl D<=2,(0:Int)<=(↑N:Int)/\(↑N:Int)<2^64,(0:Int)<(↑D:Int)/\(↑D:Int)<2^64,(0:Nat)<1] (ag.leaf au.ret (f,[(0,aq.mk false true 3 1 fun j=>if(j==0)=true then bp (rat g (dj g))else h)]));some (ag.fork a (ag.aj [a=true] (ag.fork (bif true then decide ((↑(nl D):Int)<=2)else false) d e)) (ag.aj [a=false] (ag.fork false d e))):=ah
theorem ah9:aI T GR [36] 60 k9 ((before (aE f213) [1,1,1,1]).drop (2+1)) ⟨aA k9 (qE b N D),tC,1⟩=
  let g:=(↑(bT (N.gcd D)):Int);let f:=ptr 0 0 3 0 [];let e:Nat×aq:=(0,aq.mk false true 3 1 fun x=>rat 0 1);let a:=2^40;let d:=nl (N.gcd D)<a;some (ag.aj [nl N<a,nl D<a] (ag.aj [d] (ag.fork (decide (g>1)) (ag.aj [nl N<a,d] (ag.aj [nl D<a,d] (ag.leaf au.normal ([AV.bool b,mag (N/N.gcd D),mag (D/N.gcd D),f],[e])))) (ag.leaf au.normal ([AV.bool b,mag N,mag D,f],[e]))))):=ah
theorem alB:ct T GR [58,63] 60 f213 [part (aE f213) [1,1,1,1]] ⟨aA k9 (qE b N D),tC,1⟩=
  let e:=D+0;let d:=[(0:Nat)<1];let a:=2^40;let f:=(↑(nl e):Int)==1;let h:ag (List AV):=ag.aj d (ag.aj d (ag.leaf au.ret [agg [AV.bool b,mag (N+0),nil]]));let g:ag (List AV):=ag.aj d (ag.aj d (ag.leaf au.ret [agg [AV.bool b,mag (N+0),mag e]]));some (ag.aj [nl N<a,(0:Nat)<a,nl D<a,(0:Nat)<a] (ag.fork f (ag.aj [f=true,(0:Int)<=0/\Int.toNat (0:Int)<nl e] (ag.fork (bif true then(↑(aD e (Int.toNat (0:Int))):Int)==1 else false) h g)) (ag.aj [f=false] (ag.fork false h g)))):=ah
theorem j7 {a v:Bool} (h:(bif true then a else b)=v):a=v:=h
theorem Ij:bT N=0↔N=0:=by unfold bT;split<;>simp_all
theorem ahy:bT N<=1↔N<=1:=by rw[iS];omega
theorem jX:nl N=0↔N=0:=by
 constructor
 ·intro h;rcases Nat.eq_zero_or_pos N with h1|h1
  ·exact h1
  ·have:=g8.2 (show N≠0 by omega);omega
 ·intro h;subst h;rfl
theorem acr:sQ b n 0=0:=by unfold sQ;simp
theorem Pm {x:Nat}:bV (.agg [.bool b,.mag x,.nil]) (.agg [.bool b,.mag x,.mag 0]):=cM ⟨.refl _,.refl _,lT,trivial⟩
theorem alu (hN:nl N<2^40) (hD:nl D<2^40) (K:Nat) (pre:aC):aQ P 213 K [.bool b,.mag N,.mag D] pre (aJ (.rat (sQ b N D) (dj (sQ b N D))) []):=by
 refine fV hT abw rfl aV rfl (fun _ c h0=>?_) K pre;have hO:∀{v:AV},keys v=[]->iQ 1 [(0,(⟨false,true,3,1,fun j=>if j=0 then v else .rat 0 1⟩:aq))]:=fun h=>⟨⟨aa,fun i _=>by show keys (if i=0 then _ else _)=[];split;exact h;rfl⟩,trivial⟩
 have hO':iQ 1 tC:=⟨⟨aa,fun _ _=>rfl⟩,trivial⟩
 have hz:sQ b N D=0->bV (.agg [.bool false,.mag 0,.mag 0]) (.rat (sQ b N D) (dj (sQ b N D))):=fun h=>by
  rw[h];exact jB
 refine ax.hole [1,1,1,1] ah (aG.chunk 2 (aG.bE hT oH hm 60 k9 ahE ah ?_));simp only[ag.all,ay,beq_iff_eq,beq_eq_false_iff_ne,ne_eq]
 -- behind the first questions
 have rest:∀{s':aK},N≠0->D≠0->bD k9 s'=some (qE b N D,tC)->
   aG P c f213.ntmps ((before (aE f213) [1,1,1,1]).drop 2) s' (eH (fun s'=>ax P c f213.ntmps (part (aE f213) [1,1,1,1]) s' (eH (fun s'=>aG P c f213.ntmps (behind (aE f213) [1,1,1,1]) s' (ej c (Fin T f213 (.rat (sQ b N D) (dj (sQ b N D)))))) (ej c (Fin T f213 (.rat (sQ b N D) (dj (sQ b N D)))))))
    (ej c (Fin T f213 (.rat (sQ b N D) (dj (sQ b N D)))))):=by
  intro s' hN0 hD0 hv;have last:∀{s':aK} {X Y:Nat},nl X<2^40->nl Y<2^40->X=N/Nat.gcd N D->Y=D/Nat.gcd N D->bD k9 s'=some (qE b X Y,tC)->
    ax P c f213.ntmps (part (aE f213) [1,1,1,1]) s' (eH (fun s'=>aG P c f213.ntmps (behind (aE f213) [1,1,1,1]) s' (ej c (Fin T f213 (.rat (sQ b N D) (dj (sQ b N D)))))) (ej c (Fin T f213 (.rat (sQ b N D) (dj (sQ b N D)))))):=by
   intro s' X Y hX hY eX eY hv;refine ax.mono (Q:=eH (fun s'=>aG P c f213.ntmps [] s' (ej c (Fin T f213 (.rat (sQ b N D) (dj (sQ b N D)))))) (ej c (Fin T f213 (.rat (sQ b N D) (dj (sQ b N D)))))) ?_ fun e s' h=>by cases e<;>exact h
   refine aG.lE (l:=[part (aE f213) [1,1,1,1]]) hT oH hm 60 hv (h0 _) rfl hO' alB ah rfl ?_;simp only[ag.all,ay,beq_iff_eq,beq_eq_false_iff_ne,ne_eq,Nat.add_zero,Int.toNat_zero];have hY0:Y≠0:=by rw[eY];exact Nat.pos_iff_ne_zero.1 (Nat.div_pos (Nat.le_of_dvd aa (Nat.gcd_dvd_right _ _)) (Nat.gcd_pos_of_pos_left _ aa))
   have h1:Y≠1->bV (.agg [.bool b,.mag X,.mag Y]) (.rat (sQ b N D) (dj (sQ b N D))):=fun h=>uC hN0 hD0 eX (by rw[<-eY,if_neg h]) Aw;have h2:Y=1->bV (.agg [.bool b,.mag X,.nil]) (.rat (sQ b N D) (dj (sQ b N D))):=fun h=>Pm.trans (uC hN0 hD0 eX (by rw[<-eY,if_pos h]) Aw);have hl:nl Y=1->aD Y 0=Y:=fun h=>by
    have:=gL (N:=Y);rw[h,val,val]at this;simpa using this
   refine⟨⟨hX,aa,hY,aa⟩,fun hb=>⟨⟨hb,aa,aa⟩,fun hc=>⟨aa,aa,h2 ?_⟩,fun hc=>⟨aa,aa,h1 ?_⟩⟩,fun hb=>⟨hb,fun h=>by simp at h,fun _=>⟨aa,aa,h1 ?_⟩⟩⟩
   ·have:=j7 hc;rw[hl aa]at this;have:=eq_of_beq this;omega
   ·have:=j7 hc;rw[hl aa]at this;intro h;rw[h]at this;simp at this
   ·intro h;rw[h]at hb;exact hb (by decide)
  refine aG.chunk 1 (aG.fW hT oH hm 60 hv (h0 _) rfl hO' k9 Uo ah rfl ?_);simp only[ag.all,ay,br,bC,bg,beq_iff_eq];have long:∀{s':aK},bD k9 s'=some (qE b N D,tC)->aG P c f213.ntmps (((before (aE f213) [1,1,1,1]).drop 2).drop 1) s' (eH (fun s'=>ax P c f213.ntmps (part (aE f213) [1,1,1,1]) s' (eH (fun s'=>aG P c f213.ntmps (behind (aE f213) [1,1,1,1]) s' (ej c (Fin T f213 (.rat (sQ b N D) (dj (sQ b N D)))))) (ej c (Fin T f213 (.rat (sQ b N D) (dj (sQ b N D)))))))
    (ej c (Fin T f213 (.rat (sQ b N D) (dj (sQ b N D)))))):=by
   intro s' hv;rw[List.drop_drop];refine aG.fW hT oH hm 60 hv (h0 _) rfl hO' k9 ah9 ah rfl ?_;simp only[ag.all,ay,br,bC];have hg:nl (Nat.gcd N D)<2^40:=Nat.lt_of_le_of_lt (iF (Nat.gcd_le_left _ aa)) hN;have hg0:0<Nat.gcd N D:=Nat.gcd_pos_of_pos_left _ aa;refine⟨⟨hN,hD⟩,hg,fun hb=>⟨⟨hN,hg⟩,⟨hD,hg⟩,fun s' hv=>last (Nat.lt_of_le_of_lt (iF (Nat.div_le_self _ _)) hN) (Nat.lt_of_le_of_lt (iF (Nat.div_le_self _ _)) hD) rfl rfl hv⟩,fun hb s' hv=>?_⟩;have hg1:Nat.gcd N D=1:=by
    have:bT (Nat.gcd N D)<=1:=aa;have:=ahy.1 this;omega
   exact last hN hD (by rw[hg1,Nat.div_one]) (by rw[hg1,Nat.div_one]) hv
  refine⟨fun hb=>⟨hb,fun hc=>⟨?_,fun s' hv=>?_⟩,fun hc s' hv=>cV (long hv)⟩,fun hb=>⟨hb,fun h=>by simp at h,fun _ s' hv=>cV (long hv)⟩⟩
  ·have h2:nl D<=2:=by have:=of_decide_eq_true (j7 hc);omega
   have:=rI (show nl N<=2 by omega);have:=rI h2;exact⟨aa,h2,aa,aa,aa⟩
  ·refine gd (gd (xd aa8 hv (h0 _) rfl (hO rfl) ⟨by simp[ay],?_⟩));exact .refl _
 refine⟨fun hb=>⟨⟨hN,hb⟩,fun _=>⟨aa,fun s' hv=>gd (gd (xd Qc hv (h0 _) rfl (hO rfl) ⟨by simp[ay],hz ?_⟩))⟩,fun h=>by simp at h⟩,fun hb=>⟨⟨hN,hb,hD⟩,fun hc=>⟨aa,fun s' hv=>gd (gd (xd Qc hv (h0 _) rfl (hO rfl) ⟨by simp[ay],hz ?_⟩))⟩,fun hc s' hv=>cV (rest ?_ ?_ hv)⟩⟩
 ·rw[Ij.1 (show bT N=0 by omega),Fu]
 ·have:=eq_of_beq (jk hc);rw[Ij.1 (show bT D=0 by omega),acr]
 ·intro h;rw[h]at hb;exact hb (by decide)
 ·intro h;have:=jk hc;rw[h]at this;simp[bT]at this
theorem Zp {q:Rat} (K:Nat) (pre:aC):aQ P 155 K [.rat q n] pre (aJ (.mag q.den) []):=by
 refine b9 hT oH hm St rfl aV rfl 60 amG (fun _=>?_) K pre;simp only[ag.all,ay,beq_iff_eq,beq_eq_false_iff_ne,ne_eq];refine⟨aa,fun hb=>dY ?_,fun hb=>⟨aa,dY ?_⟩⟩
 ·have h0:=q.den_nz;have:(if q.den=1 then 0 else q.den)=0:=jX.1 aa;split at this
  ·rename_i h;rw[h]
  ·omega
 ·split
  ·rename_i h;rw[if_pos h]at hb;exact absurd (by decide) hb
  ·rfl
def FO:Spec:=ck fun l=>match l with
 |[.rat q _]=>some (aJ (.mag q.den) [])
 |_=>none
theorem Sd:aW P FO 155:=by
 refine cK fun K args r hk hs _=>?_;split at hs
 ·simp only[az]at hs;subst hs;exact Zp K []
 ·simp at hs
def eZ (q:Rat):Bool:=decide (q.num.natAbs<4294967296)&&decide (q.den<4294967296)
abbrev uZ (q:Rat):AV:=.tuple [.int .u64 (if eZ q then q.num.natAbs else 0:Nat),.int .u64 (if eZ q then q.den else 0:Nat),.bool (eZ q)]
theorem wD:nl N<=1↔N<4294967296:=dL
theorem aft {q:Rat} (K:Nat) (pre:aC):aQ P 168 K [.rat q n] pre (aJ (uZ q) []):=by
 refine b9 hT oH hm amo rfl aV rfl 60 Sw (fun _=>?_) K pre;simp only[ag.all,ay,beq_iff_eq,beq_eq_false_iff_ne,ne_eq,br,bC,Int.toNat_zero];have hd:=q.den_nz;have no:¬(q.num.natAbs<4294967296/\q.den<4294967296)->fF [.int .u64 0,.int .u64 0,.bool false] (uZ q):=by
  intro h;have:eZ q=false:=by
   unfold eZ;by_cases h1:q.num.natAbs<4294967296
   ·simp[h1];omega
   ·simp[h1]
  unfold uZ;rw[this];exact⟨.refl _,.refl _,.refl _,trivial⟩
 have yes:∀{x:Int} {v:Bool},q.num.natAbs<4294967296/\q.den<4294967296->x=(q.den:Nat)->v=true->fF [.int .u64 (q.num.natAbs:Nat),.int .u64 x,.bool v] (uZ q):=by
  intro x v h hx hv;have:eZ q=true:=by unfold eZ;simp[h]
  unfold uZ;rw[this];exact⟨.refl _,bP hx,gQ hv,trivial⟩
 have hden:∀{m:Nat},nl (if q.den=1 then 0 else q.den)<=m↔(q.den=1\/nl q.den<=m):=by
  intro m;by_cases h:q.den=1
  ·simp[h];simp[nl]
  ·simp[h]
 refine⟨fun hb=>⟨⟨aa,hb⟩,fun _=>no ?_,fun h=>by simp at h⟩,fun hb=>⟨⟨aa,hb,aa⟩,fun hc=>no ?_,fun hc=>⟨aa,fun h1=>⟨⟨aa,aa,aa⟩,⟨aa,aa⟩,?_⟩,fun h1=>⟨⟨aa,aa⟩,yes ?_ ?_ rfl⟩⟩⟩⟩
 ·have:=wD (N:=q.num.natAbs);omega
 ·have h2:=of_decide_eq_true (jk hc);have h3:=hden (m:=1);have h4:=wD (N:=q.den);omega
 ·have h2:=of_decide_eq_false (jk hc);have hn1:q.den≠1:=fun h=>by rw[if_pos h]at h1;simp[nl]at h1
  rw[if_neg hn1]at h1 h2 ⊢;have h4:=(wD (N:=q.den)).1 aa;have h5:=(wD (N:=q.num.natAbs)).1 aa;have hl:aD q.den 0=q.den:=by
   have:=gL (N:=q.den);rw[show nl q.den=1 by omega,val,val]at this;simpa using this
  rw[hl,cC aa aa];exact yes ⟨h5,h4⟩ rfl (by simp;omega)
 ·have h2:=of_decide_eq_false (jk hc);have h3:=hden (m:=1);have h3':=hden (m:=0);have h4:=wD (N:=q.den);have h5:=wD (N:=q.num.natAbs);have h6:=g8 (N:=q.den);omega
 ·have h2:=of_decide_eq_false (jk hc);have h3:=hden (m:=0);have h6:=g8 (N:=q.den);omega
def Jq:Spec:=ck fun l=>match l with
 |[.rat q _]=>some (aJ (uZ q) [])
 |_=>none
theorem ZN:aW P Jq 168:=by
 refine cK fun K args r hk hs _=>?_;split at hs
 ·simp only[az]at hs;subst hs;exact aft K []
 ·simp at hs
theorem rm {q:Rat}:q=r↔(decide (q<0)=decide (r<0))/\q.num.natAbs=r.num.natAbs/\(if q.den=1 then 0 else q.den)=(if r.den=1 then 0 else r.den):=by
 constructor
 ·intro h;subst h;exact⟨rfl,rfl,rfl⟩
 ·rintro⟨h1,h2,h3⟩;have hd:q.den=r.den:=by
   have:=q.den_nz;have:=r.den_nz;split at h3<;>split at h3<;>omega
  rw[<-lM q,<-lM r,h1,h2,hd]
theorem RZ {q:Rat} (hn:n<2^44) (hm':m<2^44) (K:Nat) (pre:aC):aQ P 63 K [.rat q n,.rat r m] pre (aJ (.bool (decide (q=r))) []):=by
 refine jn fun⟨hs1,hs2,_⟩=>?_;obtain⟨a1,a2,a3⟩:=Sz.jY hs1 hn;obtain⟨b1,b2,b3⟩:=Sz.jY hs2 hm';refine b9 hT oH hm aeF rfl aV rfl 60 aiR (fun _=>?_) K pre;simp only[ag.all,ay];refine⟨fun hb=>⟨fun hc=>⟨⟨aa,aa,hb,aa,aa,a1,b1,hc,aa,aa,a3,b3⟩,gQ ?_⟩,fun hc=>⟨⟨aa,aa,hb,aa,aa,a1,b1,hc⟩,gQ ?_⟩⟩,fun hb=>⟨fun h=>by simp at h,fun _=>⟨⟨aa,aa,hb,trivial⟩,gQ ?_⟩⟩⟩
 ·have h1:=eq_of_beq hb;have h2:=of_decide_eq_true (j7 hc);rw[cond_true];exact decide_eq_decide.2 ⟨fun h=>rm.2 ⟨h1,h2,h⟩,fun h=>(rm.1 h).2.2⟩
 ·have h2:=of_decide_eq_false (j7 hc);exact(decide_eq_false fun h=>h2 (rm.1 h).2.1).symm
 ·refine(decide_eq_false fun h=>?_).symm;rw[(rm.1 h).1]at hb;simp at hb
theorem oE {q:Rat}:q.num.natAbs=0↔q=0:=by rw[Int.natAbs_eq_zero,Rat.num_eq_zero]
theorem RW {q:Rat} (h:q≠0) (h2:¬q<0):0<q:=by
 rw[Rat.lt_iff];have h3:¬q.num<0:=fun h=>h2 (jK.2 h);have h4:q.num≠0:=fun h5=>h (Rat.num_eq_zero.1 h5);simp;omega
theorem D7 {q:Rat} (hn:n<2^44) (K:Nat) (pre:aC):aQ P 79 K [.rat q n] pre (aJ (.int .i64 (fy q)) []):=by
 refine jn fun⟨hs1,_⟩=>?_;obtain⟨a1,a2,a3⟩:=Sz.jY hs1 hn;refine b9 hT oH hm agY rfl aV rfl 60 aa4 (fun _=>?_) K pre;simp only[ag.all,ay,beq_iff_eq,beq_eq_false_iff_ne,ne_eq];refine⟨⟨aa,a1⟩,fun hb=>bP ?_,fun hb=>⟨aa,fun hc=>bP ?_,fun hc=>bP ?_⟩⟩
 ·have h0:q=0:=oE.1 (Ij.1 aa);subst h0;rfl
 ·have:=of_decide_eq_true hc;unfold fy;rw[if_pos this]
 ·have h1:=of_decide_eq_false hc;have h0:q≠0:=fun h=>hb (by rw[h];rfl);unfold fy;rw[if_neg h1,if_pos (RW h0 h1)]
def Qw:Spec:=ck fun l=>match l with
 |[.rat q n]=>some (aJ (.int .i64 (fy q)) [n<2^44])
 |_=>none
theorem XR:aW P Qw 79:=by
 refine cK fun K args r hk hs _=>?_;split at hs
 ·simp only[az]at hs;subst hs;exact fun need=>D7 need K [] trivial
 ·simp at hs
theorem Q5 {q:Rat} (h:Sz q n):bV (.agg [.bool (decide (q<0)),.mag q.num.natAbs,.mag (if q.den=1 then 0 else q.den)]) (.rat q n):=tX h rfl rfl rfl
theorem akR {q:Rat} (hn:n<2^44) (K:Nat) (pre:aC):aQ P 197 K [.rat q n] pre (aJ (.rat q n) []):=by
 refine jn fun⟨hs1,_⟩=>?_;have hs1:Sz q n:=hs1;obtain⟨a1,a2,a3⟩:=Sz.jY hs1 hn;refine b9 hT oH hm X7 rfl aV rfl 60 acs (fun _=>?_) K pre;simp only[ag.all,ay];exact⟨⟨aa,aa,a1,aa,a3,aa⟩,aa,Q5 hs1⟩
def Sc:Spec:=ck fun l=>match l with
 |[.rat q n]=>some (aJ (.rat q n) [n<2^44])
 |_=>none
theorem S6:aW P Sc 197:=by
 refine cK fun K args r hk hs _=>?_;split at hs
 ·simp only[az]at hs;subst hs;exact fun need=>akR need K [] trivial
 ·simp at hs
theorem Z3 {n:Int} (h1:-2^63<=n) (h2:n<2^63) (K:Nat) (pre:aC):aQ P 245 K [.int .i64 n] pre (aJ (.mag n.natAbs) []):=by
 refine b9 hT oH hm aci rfl aV rfl 60 ab9 (fun _=>?_) K pre;simp only[ag.all,ay,beq_iff_eq,beq_eq_false_iff_ne,ne_eq];refine⟨fun hb=>⟨aa,dY ?_⟩,fun hb=>?_⟩
 ·subst hb;rfl
 ·have e:i64.wrap (0-n)=-n:=by rw[wrap_i64 aa aa];omega
  rw[e];have e2 : u64.wrap (if n < -n then -n else n) = ((n.natAbs : Nat) : Int) := by
   rw[cC (by split<;>omega) (by split<;>omega)];split<;>omega
  rw[e2];refine⟨⟨aa,aa⟩,dY (by rw[bg])⟩
def LK:Spec:=ck fun l=>match l with
 |[.int .i64 n]=>some (aJ (.mag n.natAbs) [-2^63<=n,n<2^63])
 |_=>none
theorem alW:aW P LK 245:=by
 refine cK fun K args r hk hs _=>?_;split at hs
 ·simp only[az]at hs;subst hs;exact fun need=>Z3 need.1 need.2 K [] trivial
 ·simp at hs
def Gt:Spec:=ck fun l=>match l with
 |[.bool b,x,y]=>match jI x,jI y with
  |some N,some D=>some (aJ (.rat (sQ b N D) (dj (sQ b N D))) [nl N<2^40,nl D<2^40])
  |_,_=>none
 |_=>none
theorem Rm:aW P Gt 213:=by
 refine cK fun K args r hk hs _=>?_;split at hs
 ·split at hs
  ·rename_i N D h1 h2;simp only[az]at hs;subst hs;exact fun need=>gW (alu need.1 need.2 K []) hk ⟨.refl _,mL h1,mL h2,trivial⟩ [] trivial
  ·simp at hs
 ·simp at hs
theorem YV:aU 166 f166:=aS func166
theorem ahz:aU 173 f173:=aS func173
theorem WO:aU 174 f174:=aS func174
theorem ak7:aU 108 f108:=aS func108
def GQ:aX:=(168,Jq)::(212,HP)::(155,FO)::(213,Gt)::(170,ck (jj MP))::(214,ck (jj Fg))::(215,ck (jj NY))::(169,ck (jj AJ))::(142,Fp)::(211,PN)::(79,Qw)::[]
theorem mN:bn P GQ:=aH ZN (aH LJ (aH Sd (aH Rm (aH abg (aH Lr (aH aaE (aH G9 (aH RT (aH T2 (aH XR bw))))))))))
theorem ahx {q:Rat}:bX T GQ [15,20,28,35] 60 f173 (aE f173) ⟨aN 0 [.rat q n,.rat r m],[],0⟩=
  let d:=q.num.natAbs;let b:=r.num.natAbs;let e:=2^40;let i:=decide (q<0)!=decide (r<0);let a:=0<1;let h:=u64.wrap ((↑(if eZ q=true then q.den else 0):Int)*(↑(if eZ r=true then r.den else 0):Int));let f:=sQ i (d*b) (q.den*r.den);let j:=(↑(nl d):Int)==0;let o:ag (List AV):=ag.aj [a] (ag.aj [a] (ag.leaf au.ret [agg [AV.bool false,mag 0,mag 0]]));let g:=u64.wrap ((↑(if eZ q=true then d else 0):Int)*(↑(if eZ r=true then b else 0):Int));let l:ag (List AV):=ag.aj [a,a,a,a,nl d<e,nl b<e,a,a,nl q.den<e,nl r.den<e,nl (d*b)<e,nl (q.den*r.den)<e,a] (ag.aj [a] (ag.leaf au.ret [rat f (dj f)]));let k:ag (List AV):=ag.aj [a] (ag.fork (eZ q) (ag.aj [a] (ag.fork (eZ r) (ag.aj [a,a,(0:Int)<=g/\g<2^64,(0:Int)<h/\h<2^64,a] (ag.aj [a] (ag.leaf au.ret [rat (sQ i g.toNat h.toNat) (dj (sQ i g.toNat h.toNat))]))) l)) l);some (ag.fork j (ag.aj [a,j=true] (ag.fork true o k)) (ag.aj [a,j=false,a] (ag.fork (bif false then true else(↑(nl b):Int)==0) o k))):=ah
theorem aht {q:Rat}:bX T GQ [14,22,29] 60 f174 (aE f174) ⟨aN 0 [.rat q n,.rat r m],[],0⟩=
  let d:=int .i64 (0:Int);let h:=r.num.natAbs;let g:=q.num.natAbs;let b:=2^40;let i:=decide (q<0)!=decide (r<0);let a:=0<1;let k:=sQ i (g*r.den) (q.den*h);let f:=u64.wrap ((↑(if eZ q=true then g else 0):Int)*(↑(if eZ r=true then r.den else 0):Int));let e:=u64.wrap ((↑(if eZ q=true then q.den else 0):Int)*(↑(if eZ r=true then h else 0):Int));let j:ag (List AV):=ag.aj [a,a,a,a,nl g<b,nl r.den<b,a,a,nl q.den<b,nl h<b,nl (g*r.den)<b,nl (q.den*h)<b,a] (ag.aj [a] (ag.leaf au.ret [rat k (dj k),d]));some (ag.aj [a,m<2^44] (ag.fork (fy r==0) (ag.aj [a] (ag.aj [a] (ag.leaf au.ret [agg [AV.bool false,mag 0,mag 0],int .i64 (3:Int)]))) (ag.aj [a] (ag.fork (eZ q) (ag.aj [a] (ag.fork (eZ r) (ag.aj [a,a,(0:Int)<=f/\f<2^64,(0:Int)<e/\e<2^64,a] (ag.aj [a] (ag.leaf au.ret [rat (sQ i f.toNat e.toNat) (dj (sQ i f.toNat e.toNat)),d]))) j)) j)))):=ah
abbrev fE:List Nat:=[2,3,4,6]
abbrev jg (s:Bool):List AV:=[.bool s,.ptr 0 0 3 0 [],.ptr 4096 0 3 0 [],.ptr 8192 0 3 0 []]
abbrev oC (q r:Rat) (n m:Nat):aC:=[(8192,⟨false,true,3,1,fun _=>.rat 0 1⟩),(4096,⟨false,true,3,1,fun _=>.rat r m⟩),(0,⟨false,true,3,1,fun _=>.rat q n⟩)]
abbrev HF:Code:=part (aE f166) [1,0]
abbrev DJ:Code:=part HF [1,1,0]
abbrev uK:Code:=part DJ [1,1,0]
abbrev nU:Code:=part (aE f166) [1,1]
theorem aky {q:Rat} {s:Bool}:aI T GQ [] 60 fE [part (aE f166) [0]] ⟨aN 0 [.rat q n,.rat r m,.bool s],[],0⟩=
  some (ag.leaf au.normal ([AV.bool s,ptr 0 0 (bp (rat q n)).size 0 [],ptr 4096 0 (bp (rat r m)).size 0 [],ptr 8192 0 3 0 []],[(8192,aq.mk false true 3 1 fun x=>rat 0 1),(4096,aq.mk false true (bp (rat r m)).size 1 fun x=>rat r m),(0,aq.mk false true (bp (rat q n)).size 1 fun x=>rat q n)])):=ah
theorem Z6 {q:Rat} {s:Bool}:aI T GQ [] 60 (fE++[7,8,28]) (before HF [1,1]) ⟨aA fE (jg s),oC q r n m,8193⟩=
  some (ag.aj [(0:Nat)<1] (ag.leaf au.normal ([AV.bool s,ptr 0 0 3 0 [],ptr 4096 0 3 0 [],ptr 8192 0 3 0 [],int .u64 (↑(if eZ q=true then q.num.natAbs else 0):Int),int .u64 (↑(if eZ q=true then q.den else 0):Int),AV.bool (eZ q)],[(8192,aq.mk false true 3 1 fun x=>rat 0 1),(4096,aq.mk false true 3 1 fun x=>rat r m),(0,aq.mk false true 3 1 fun x=>rat q n)]))):=ah
theorem ajv {q:Rat} {s:Bool} {x:Nat}:aI T GQ [] 60 (fE++[7,8,10,11,35]) (before DJ [1,1]) ⟨aA (fE++[7,8]) (jg s++[.int .u64 x,.int .u64 p]),oC q r n m,8193⟩=
  some (ag.aj [(0:Nat)<1] (ag.leaf au.normal ([AV.bool s,ptr 0 0 3 0 [],ptr 4096 0 3 0 [],ptr 8192 0 3 0 [],int .u64 (↑x:Int),int .u64 (↑p:Int),int .u64 (↑(if eZ r=true then r.num.natAbs else 0):Int),int .u64 (↑(if eZ r=true then r.den else 0):Int),AV.bool (eZ r)],[(8192,aq.mk false true 3 1 fun x=>rat 0 1),(4096,aq.mk false true 3 1 fun x=>rat r m),(0,aq.mk false true 3 1 fun x=>rat q n)]))):=ah
abbrev pz (b:Bool) (N D:Nat) (r:Rat) (m:Nat) (f:Nat->AV):aC:=[(8192,⟨false,true,3,1,f⟩),(4096,⟨false,true,3,1,fun _=>.rat r m⟩),(0,⟨false,true,3,1,fun _=>.agg [.bool b,.mag N,.mag D]⟩)]
theorem SM {x:Nat}:aI T GQ [48] 60 fE [uK] ⟨aA (fE++[7,8,10,11]) (jg true++[.int .u64 x,.int .u64 p,.int .u64 y,.int .u64 t]),pz true N D r m fun _=>.rat 0 1,8193⟩=
  let a:=rat 0 1;let k:=u64.wrap ((↑x:Int)*(↑t:Int));let i:=u64.wrap ((↑y:Int)*(↑p:Int));let b:=[(0:Nat)<1];let e:=u64.wrap ((↑p:Int)*(↑t:Int));let g:List (Nat×aq):=[(4096,aq.mk false true 3 1 fun x=>rat r m),(0,aq.mk false true 3 1 fun x=>agg [AV.bool true,mag N,mag D])];let f:=[AV.bool true,ptr 0 0 3 0 [],ptr 4096 0 3 0 [],ptr 8192 0 3 0 []];let h:=k+i+0;let d:=h%(18446744073709551616:Int);let l:=sQ true d.toNat e.toNat;some (ag.aj [(0:Int)<=k,(0:Int)<=i,(0:Int)<=0/\(0:Int)<=1] (ag.aj b (ag.fork (bif true==true then h/(18446744073709551616:Int)==0 else false) (ag.aj (((0:Int)<=d/\d<2^64)::((0:Int)<e/\e<2^64)::b) (ag.leaf au.ret (f,(8192,aq.mk false true 3 1 fun j=>if(j==0)=true then bp (rat l (dj l))else a)::g))) (ag.aj b (ag.aj b (ag.leaf au.normal (f,(8192,aq.mk false true 3 1 fun x=>a)::g))))))):=ah
theorem aaB {x:Nat}:aI T GQ [48] 60 fE [uK] ⟨aA (fE++[7,8,10,11]) (jg false++[.int .u64 x,.int .u64 p,.int .u64 y,.int .u64 t]),pz false N D r m fun _=>.rat 0 1,8193⟩=
  let a:=rat 0 1;let k:=u64.wrap ((↑y:Int)*(↑p:Int));let i:=u64.wrap ((↑x:Int)*(↑t:Int));let b:=[(0:Nat)<1];let e:=u64.wrap ((↑p:Int)*(↑t:Int));let g:List (Nat×aq):=[(4096,aq.mk false true 3 1 fun x=>rat r m),(0,aq.mk false true 3 1 fun x=>agg [AV.bool false,mag N,mag D])];let f:=[AV.bool false,ptr 0 0 3 0 [],ptr 4096 0 3 0 [],ptr 8192 0 3 0 []];let h:=i+k+0;let d:=h%(18446744073709551616:Int);let l:=sQ false d.toNat e.toNat;some (ag.aj [(0:Int)<=i,(0:Int)<=k,(0:Int)<=0/\(0:Int)<=1] (ag.aj b (ag.fork (bif false==false then h/(18446744073709551616:Int)==0 else false) (ag.aj (((0:Int)<=d/\d<2^64)::((0:Int)<e/\e<2^64)::b) (ag.leaf au.ret (f,(8192,aq.mk false true 3 1 fun j=>if(j==0)=true then bp (rat l (dj l))else a)::g))) (ag.aj b (ag.aj b (ag.leaf au.normal (f,(8192,aq.mk false true 3 1 fun x=>a)::g))))))):=ah
theorem alQ {x:Nat}:aI T GQ [63] 60 fE [uK] ⟨aA (fE++[7,8,10,11]) (jg false++[.int .u64 x,.int .u64 p,.int .u64 y,.int .u64 t]),pz true N D r m fun _=>.rat 0 1,8193⟩=
  let d:=rat 0 1;let n:=(2:Int)^64;let f:=0<1;let q:List (Nat×aq):=[(4096,aq.mk false true 3 1 fun x=>rat r m),(0,aq.mk false true 3 1 fun x=>agg [AV.bool true,mag N,mag D])];let o:=[AV.bool false,ptr 0 0 3 0 [],ptr 4096 0 3 0 [],ptr 8192 0 3 0 []];let i:=u64.wrap ((↑p:Int)*(↑t:Int));let h:=u64.wrap ((↑x:Int)*(↑t:Int));let g:=u64.wrap ((↑y:Int)*(↑p:Int));let e:=[(0:Int)<i/\i<n,f];let l:=u64.wrap (g-h);let k:=u64.wrap (h-g);let b:=sQ true k.toNat i.toNat;let a:=sQ false l.toNat i.toNat;some (ag.aj [(0:Int)<=h,(0:Int)<=g,(0:Int)<=0/\(0:Int)<=1] (ag.aj [f] (ag.aj [f] (ag.fork (bif true !=false then decide (h>=g)else false) (ag.aj (f::((0:Int)<=k/\k<n)::e) (ag.leaf au.ret (o,(8192,aq.mk false true 3 1 fun j=>if(j==0)=true then bp (rat b (dj b))else d)::q))) (ag.aj [f] (ag.aj (((0:Int)<=l/\l<n)::e) (ag.leaf au.ret (o,(8192,aq.mk false true 3 1 fun j=>if(j==0)=true then bp (rat a (dj a))else d)::q)))))))):=ah
theorem YU {x:Nat}:aI T GQ [63] 60 fE [uK] ⟨aA (fE++[7,8,10,11]) (jg true++[.int .u64 x,.int .u64 p,.int .u64 y,.int .u64 t]),pz false N D r m fun _=>.rat 0 1,8193⟩=
  let e:=rat 0 1;let n:=(2:Int)^64;let f:=0<1;let q:List (Nat×aq):=[(4096,aq.mk false true 3 1 fun x=>rat r m),(0,aq.mk false true 3 1 fun x=>agg [AV.bool false,mag N,mag D])];let o:=[AV.bool true,ptr 0 0 3 0 [],ptr 4096 0 3 0 [],ptr 8192 0 3 0 []];let i:=u64.wrap ((↑p:Int)*(↑t:Int));let h:=u64.wrap ((↑x:Int)*(↑t:Int));let g:=u64.wrap ((↑y:Int)*(↑p:Int));let d:=[(0:Int)<i/\i<n,f];let l:=u64.wrap (g-h);let k:=u64.wrap (h-g);let b:=sQ true l.toNat i.toNat;let a:=sQ false k.toNat i.toNat;some (ag.aj [(0:Int)<=h,(0:Int)<=g,(0:Int)<=0/\(0:Int)<=1] (ag.aj [f] (ag.aj [f] (ag.fork (bif false !=true then decide (h>=g)else false) (ag.aj (f::((0:Int)<=k/\k<n)::d) (ag.leaf au.ret (o,(8192,aq.mk false true 3 1 fun j=>if(j==0)=true then bp (rat a (dj a))else e)::q))) (ag.aj [f] (ag.aj (((0:Int)<=l/\l<n)::d) (ag.leaf au.ret (o,(8192,aq.mk false true 3 1 fun j=>if(j==0)=true then bp (rat b (dj b))else e)::q)))))))):=ah
theorem amn {s:Bool} {k:Nat} {z:Rat}:kM T f166 .ret ⟨aA fE (jg s),pz b N D r m fun j=>if j=0 then bp (.rat z k)else .rat 0 1,8193⟩=
  some (ag.aj [(0:Nat)<1] (ag.leaf au.ret [rat z k])):=ah
theorem WN {q:Rat} {s:Bool}:aI T GQ [106] 60 (fE++[15,16,17]) (before nU [1,1]) ⟨aA fE (jg s),oC q r n m,8193⟩=
  let i:=ptr 0 0 3 0 [];let h:=ptr 8192 0 3 0 [];let g:=ptr 4096 0 3 0 [];let f:=if r.den=1 then 0 else r.den;let e:=if q.den=1 then 0 else q.den;let b:=0<1;let a:=2^40;let d:List (Nat×aq):=[(8192,aq.mk false true 3 1 fun x=>rat 0 1),(4096,aq.mk false true 3 1 fun x=>rat r m),(0,aq.mk false true 3 1 fun x=>rat q n)];some (ag.aj [b,b,b] (ag.aj [b,b,nl e<a,nl f<a] (ag.fork (!decide (e=f)) (ag.aj [b,nl q.num.natAbs<a,nl r.den<a,b,nl r.num.natAbs<a,nl q.den<a,b,nl q.den<a,nl r.den<a] (ag.leaf au.normal ([AV.bool s,i,g,h,mag (q.num.natAbs*r.den),mag (r.num.natAbs*q.den),mag (q.den*r.den)],d))) (ag.leaf au.normal ([AV.bool s,i,g,h,mag q.num.natAbs,mag r.num.natAbs,mag q.den],d))))):=ah
theorem VM {q:Rat} {s:Bool}:ct T GQ [122,136] 60 f166 [part nU [1,1]] ⟨aA (fE++[15,16,17]) (jg s++[.mag X,.mag Y,.mag D]),oC q r n m,8193⟩=
  let d:=decide (q<0);let b:=0<1;let a:=2^40;some (ag.aj [b] (ag.fork (d==s) (ag.aj [nl X<a,nl Y<a,nl (X+Y)<a,nl D<a,b] (ag.aj [b] (ag.leaf au.ret [rat (sQ s (X+Y) D) (dj (sQ s (X+Y) D))]))) (ag.aj [nl X<a,nl Y<a] (ag.fork ((if X<Y then(7:Int)else(0:Int))==0) (ag.aj [b,nl (X-Y)<a,nl D<a,b] (ag.aj [b] (ag.leaf au.ret [rat (sQ d (X-Y) D) (dj (sQ d (X-Y) D))]))) (ag.aj [nl Y<a,nl X<a] (ag.aj [nl (Y-X)<a,nl D<a,b] (ag.aj [b] (ag.leaf au.ret [rat (sQ s (Y-X) D) (dj (sQ s (Y-X) D))])))))))):=ah
end Go.Am.B
