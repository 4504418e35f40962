/- natural.Div: its loops. -/
import Derived.Test.YtfjlccdmhpdiiaaGreatY4
import Derived.Laws.Externs
import Derived.Test.YtfjlccdmhpdiiaaGreatZ2
set_option linter.unusedVariables false
noncomputable section
namespace Go.Am.B
open Go Go.Am.N AV Proofs.Tryz IntKind
theorem jX:bq P GD:=aI FE (aI EH (aI W9 (aI Zm (aI aaV iq))))
theorem ze:bq P GT:=aI Xg bB
section pieces
variable {c:Ctx} (h0:∀k x,c.k0 k=some x->k<9) {Q:aq->aK->Prop} {lq s lu V j:Nat} {q u:Nat->Nat} {s':aK}
theorem ju {lq lu:Nat} {q u:Nat->Nat}:iF 9 (cX lq lu q u):=⟨⟨aa,fun _ _=>rfl⟩,⟨aa,fun _ _=>rfl⟩,trivial⟩
theorem fE {a:Int} {n:Nat} (h:a=n) (hn:n<2^63):i64.wrap a=(n:Int):=by rw[h,wrap_i64 aa aa]
theorem jb {a b v:Bool} (h:(bif false then a else b)=v):b=v:=h
theorem Qw {a b:Nat} (h:(a:Int)>(b:Int)):b<a:=aa
theorem S0 {a b:Nat} (h:¬(a:Int)>(b:Int)):a<=b:=aa
abbrev pn:List Nat:=dr++[15,16]
abbrev yD (lq s lu V:Nat) (j x:Int) (rest:Nat):List AV:=fL lq s lu V j++[.int .u64 x,.int .u64 (rest:Nat)]
include h0 in
theorem ai1 {top qt v1 v2 u3 x0 r0:Nat} (hlu:lu<2^41) (hn:2<=nl V) (hj:j+nl V<lu) (e1:aD V (nl V-1)=v1) (e2:aD V (nl V-2)=v2) (e3:u (j+nl V-2)=u3) (hu3:u3<4294967296)
  (hx0:x0*v1+r0=top) (hr0:r0<4294967296) (hq0:qt<=x0) (hx33:x0<2^34)
  (hbig:qt<4294967296) (hstep:∀x rest,x*v1+rest=top->rest*4294967296+u3<x*v2->qt<x) (hsmall:∀x rest,x*v1+rest=top->4294967296<=rest->x<4294967296)
  (hv:bA pn s'=some (yD lq s lu V j x0 r0,cX lq lu q u))
  (fin:∀x rest s',x<4294967296->x*v1+rest=top->qt<=x->x*v2<=rest*4294967296+u3->bA pn s'=some (yD lq s lu V j x rest,cX lq lu q u)->Q .normal s'):
  ax P c f202.ntmps (part ry [1,1,0]) s' Q:=by
 refine ax.iH (i:=3) (y:=part ry [1,1,0,0,0]) ah pn 9 h0 (fun p:Nat×Nat=>yD lq s lu V j p.1 p.2) (fun _=>cX lq lu q u) (fun _=>rfl) (fun _=>ju)
  (fun p=>p.1*v1+p.2=top/\p.2<4294967296/\qt<=p.1/\p.1<2^34) (fun p=>p.1) (x0,r0) hv ⟨hx0,hr0,hq0,hx33⟩ ?_
 rintro⟨x,rest⟩ ⟨ht,hr,hq,hx⟩
 simp only at ht hr hq hx
 show ax P c f202.ntmps _ ⟨aA pn (yD lq s lu V j (x:Int) rest),cX lq lu q u,9⟩ _
 obtain⟨X,hX⟩:∃X:Int,X=(x:Int):=⟨_,rfl⟩
 rw[<-hX]
 refine ax.bE hT jX hm 60 pn (RI (x:=X)) ah ?_
 rw[hX]
 have w1:i64.wrap ((nl V:Int)-1)=((nl V-1:Nat):Int):=fE aa aa
 have w2:i64.wrap ((nl V:Int)-2)=((nl V-2:Nat):Int):=fE aa aa
 have w3:i64.wrap ((j:Int)+(nl V:Int))=((j+nl V:Nat):Int):=fE aa aa
 have w4:i64.wrap (((j+nl V:Nat):Int)-2)=((j+nl V-2:Nat):Int):=fE aa aa
 have hv1:aD V (nl V-1)<4294967296:=dY
 have hv2:aD V (nl V-2)<4294967296:=dY
 have w5:u64.wrap ((rest:Int)+u64.wrap (aD V (nl V-1):Int))=((rest+v1:Nat):Int):=by
  rw[cr (x:=(aD V (nl V-1):Int)) aa aa,cr aa aa,e1];omega
 rw[w1,w2,w3,w4]
 simp only[ag.all,az,bf,Nat.add_zero,w5,e3]
 rw[vv hr hu3]
 have next:∀{s':aK},qt<x->rest+v1<4294967296->bA pn s'=some ([.own 8 1 0 lq,.int .i64 s,.own 7 1 0 lu,.mag V,.int .i64 (nl V),.int .i64 j,.int .u64 (u64.wrap ((x:Int)-1)),.int .u64 ((rest+v1:Nat):Int)],cX lq lu q u)->
   ∃k:Nat×Nat,bA pn s'=some (yD lq s lu V j k.1 k.2,cX lq lu q u)/\(k.1*v1+k.2=top/\k.2<4294967296/\qt<=k.1/\k.1<2^34)/\k.1<x:=by
  intro s' h1 h2 hv
  refine⟨(x-1,rest+v1),?_,⟨?_,h2,by simp only;omega,by simp only;omega⟩,by simp only;omega⟩
  ·refine ec hv ?_ rfl
   rw[cr (x:=(x:Int)-1) aa aa,show(x:Int)-1=((x-1:Nat):Int) by omega]
   rfl
  ·simp only
   obtain⟨y,rfl⟩:∃y,x=y+1:=⟨x-1,aa⟩
   rw[Nat.add_mul]at ht
   simp only[Nat.add_sub_cancel];omega
 have last:∀{s':aK},qt<x->4294967296<=rest+v1->bA pn s'=some ([.own 8 1 0 lq,.int .i64 s,.own 7 1 0 lu,.mag V,.int .i64 (nl V),.int .i64 j,.int .u64 (u64.wrap ((x:Int)-1)),.int .u64 ((rest+v1:Nat):Int)],cX lq lu q u)->Q .normal s':=by
  intro s' h1 h2 hv
  have ht':(x-1)*v1+(rest+v1)=top:=by
   obtain⟨y,rfl⟩:∃y,x=y+1:=⟨x-1,aa⟩
   rw[Nat.add_mul]at ht
   simp only[Nat.add_sub_cancel];omega
  have hsm:=hsmall _ _ ht' h2
  refine fin (x-1) (rest+v1) s' hsm ht' aa ?_ (ec hv ?_ rfl)
  ·have a1:(x-1)*v2<=4294967295*4294967295:=Nat.mul_le_mul aa aa
   omega
  ·rw[cr (x:=(x:Int)-1) aa aa,show(x:Int)-1=((x-1:Nat):Int) by omega]
   rfl
 refine⟨fun hb=>⟨hb,fun _=>⟨aa,fun h1 s' hv=>?_,fun h1 s' hv=>?_⟩,fun h=>by simp at h⟩,fun hb=>⟨⟨hb,aa,aa,aa,aa⟩,?_⟩⟩
 ·simp only[bk]at hb h1
  exact fZ (last aa aa hv)
 ·simp only[bk,bt]at hb h1
  exact next aa aa hv
 ·simp only[bt]at hb
  have hxB:x<4294967296:=aa
  have m1:x*aD V (nl V-2)<=(2^32-1)*(2^32-1):=Nat.mul_le_mul aa aa
  have w6:u64.wrap ((x:Int)*u64.wrap (aD V (nl V-2):Int))=((x*v2:Nat):Int):=by
   rw[cr (x:=(aD V (nl V-2):Int)) aa aa,e2]
   have:(x:Int)*(v2:Int)=((x*v2:Nat):Int):=by simp
   rw[this,cr aa (by rw[e2]at m1;omega)]
  rw[w6]
  refine⟨fun h1=>⟨aa,fun h2 s' hv=>?_,fun h2 s' hv=>?_⟩,fun h1 s' hv=>?_⟩
  ·simp only[bk]at h2
   exact fZ (last (hstep x rest ht (Qw (of_decide_eq_true (jb h1)))) (by clear h1 w6 m1;omega) hv)
  ·simp only[bt]at h2
   exact next (hstep x rest ht (Qw (of_decide_eq_true (jb h1)))) (by clear h1 w6 m1;omega) hv
  ·skip
   exact fZ (fin x rest s' hxB ht hq (S0 (of_decide_eq_false (jb h1))) hv)
abbrev xV:List Nat:=dr++[15,17,18,154,155,156]
abbrev Cx (lq s lu V:Nat) (j:Int) (x b c i:Nat):List AV:=fL lq s lu V j++[.int .u64 (x:Nat),.int .u64 (b:Nat),.int .u64 (c:Nat),.mag V,.int .i64 (nl V),.int .i64 (i:Nat)]
include h0 in
theorem afq {x:Nat} (hlu:lu<2^41) (hj:j+nl V<lu) (hx:x<4294967296) (hu:∀i,i<lu->u i<2^32)
  (hv:bA xV s'=some (Cx lq s lu V j x 0 0 0,cX lq lu q u))
  (fin:∀b c u' s',b<=1->c<4294967296->(∀i,i<lu->u' i<2^32)->(∀i,i<j\/j+nl V<=i->u' i=u i)->
   val (nl V) (fun i=>u' (j+i))+x*V=val (nl V) (fun i=>u (j+i))+(c+b)*2^(32*nl V)->bA xV s'=some (Cx lq s lu V j x b c (nl V),cX lq lu q u')->Q .normal s'):
  ax P c f202.ntmps (part uq [1,0,1]) s' Q:=by
 refine ax.iH (i:=5) (y:=part uq [1,0,1,0,0]) ah xV 9 h0 (fun p:Nat×Nat×Nat×(Nat->Nat)=>Cx lq s lu V j x p.2.1 p.2.2.1 p.1) (fun p=>cX lq lu q p.2.2.2) (fun _=>rfl) (fun _=>ju)
  (fun p=>p.1<=nl V/\p.2.1<=1/\p.2.2.1<4294967296/\(∀i,i<lu->p.2.2.2 i<2^32)/\(∀i,i<j\/j+p.1<=i->p.2.2.2 i=u i)/\
   val p.1 (fun i=>p.2.2.2 (j+i))+x*val p.1 (aD V)=val p.1 (fun i=>u (j+i))+(p.2.2.1+p.2.1)*2^(32*p.1)) (fun p=>nl V-p.1) (0,0,0,u) hv
  ⟨by simp,by simp,by simp,hu,fun i _=>rfl,by simp[val]⟩ ?_
 rintro⟨i,b,cc,u'⟩ ⟨hi,hb,hc,hu',hout,hval⟩
 simp only at hi hb hc hu' hout hval
 refine ax.bE hT jX hm 60 xV div_mul ah ?_
 simp only[ag.all,az,bk,bt,beq_iff_eq]
 refine⟨fun h1=>?_,fun h1 s' hv=>?_⟩
 ·have hin:i<nl V:=aa
  have w1:i64.wrap ((i:Int)+(j:Int))=((j+i:Nat):Int):=fE aa aa
  rw[w1]
  simp only[bf,Nat.add_zero]
  obtain⟨m1,m2,m3⟩:=acf hc hx (dY (N:=V) (i:=i))
  have hui:=hu' (j+i) aa
  obtain⟨g1,g2⟩:=Nq (u:=u' (j+i)) (c:=(cc+x*aD V i)%4294967296) hui aa hb
  rw[m1,U2 m2,g1,g2,mq]
  refine⟨aa,aa,aa,aa,aa,fun s' hv=>⟨(i+1,(if(cc+x*aD V i)%4294967296+b<=u' (j+i)then 0 else 1),(cc+x*aD V i)/4294967296,cE u' (j+i) ((u' (j+i)+4294967296-(cc+x*aD V i)%4294967296-b)%4294967296)),ec hv ?_ ?_,⟨by simp only;omega,by simp only;split<;>omega,m3,je aa hu',fun k hk=>?_,?_⟩,by simp only;omega⟩⟩
  ·rw[fE (a:=(i:Int)+1) (n:=i+1) aa aa]
   simp only[Cx,fL,List.cons_append,List.nil_append,List.cons.injEq,AV.int.injEq,and_true,true_and]
   omega
  ·simp only[cX]
   congr 4
   funext k
   exact iA rfl k
  ·simp only at hk ⊢
   rw[gn aa]
   exact hout k aa
  ·simp only
   rw[val,val,val,kP,val_congr (y:=fun i=>u' (j+i)) fun k hk=>gn aa,iS,<-hout (j+i) aa]
   exact Um aa hb hui rfl hval
 ·have hin:i=nl V:=aa
  subst hin
  rw[gI]at hval
  exact fZ (fin b cc u' s' hb hc hu' hout hval hv)
abbrev wz:List Nat:=dr++[15,18,214,215,216]
abbrev B3 (lq s lu V:Nat) (j:Int) (x c i:Nat):List AV:=fL lq s lu V j++[.int .u64 (x:Nat),.int .u64 (c:Nat),.mag V,.int .i64 (nl V),.int .i64 (i:Nat)]
include h0 in
theorem ahh {x:Nat} (hlu:lu<2^41) (hj:j+nl V<lu) (hu:∀i,i<lu->u i<2^32)
  (hv:bA wz s'=some (B3 lq s lu V j x 0 0,cX lq lu q u))
  (fin:∀c u' s',c<=1->(∀i,i<lu->u' i<2^32)->(∀i,i<j\/j+nl V<=i->u' i=u i)->
   val (nl V) (fun i=>u' (j+i))+c*2^(32*nl V)=val (nl V) (fun i=>u (j+i))+V->bA wz s'=some (B3 lq s lu V j x c (nl V),cX lq lu q u')->Q .normal s'):
  ax P c f202.ntmps (part sI [1,1,0,1]) s' Q:=by
 refine ax.iH (i:=7) (y:=part sI [1,1,0,1,0,0]) ah wz 9 h0 (fun p:Nat×Nat×(Nat->Nat)=>B3 lq s lu V j x p.2.1 p.1) (fun p=>cX lq lu q p.2.2) (fun _=>rfl) (fun _=>ju)
  (fun p=>p.1<=nl V/\p.2.1<=1/\(∀i,i<lu->p.2.2 i<2^32)/\(∀i,i<j\/j+p.1<=i->p.2.2 i=u i)/\
   val p.1 (fun i=>p.2.2 (j+i))+p.2.1*2^(32*p.1)=val p.1 (fun i=>u (j+i))+val p.1 (aD V)) (fun p=>nl V-p.1) (0,0,u) hv
  ⟨by simp,by simp,hu,fun i _=>rfl,by simp[val]⟩ ?_
 rintro⟨i,cc,u'⟩ ⟨hi,hc,hu',hout,hval⟩
 simp only at hi hc hu' hout hval
 refine ax.bE hT jX hm 60 wz div_add ah ?_
 simp only[ag.all,az,bk,bt,beq_iff_eq]
 refine⟨fun h1=>?_,fun h1 s' hv=>?_⟩
 ·have hin:i<nl V:=aa
  have w1:i64.wrap ((i:Int)+(j:Int))=((j+i:Nat):Int):=fE aa aa
  rw[w1]
  simp only[bf,Nat.add_zero]
  have hui:=hu' (j+i) aa
  have hvi:=dY (N:=V) (i:=i)
  have m1:u64.wrap ((cc:Int)+u64.wrap (u64.wrap (u' (j+i):Int)+u64.wrap (aD V i:Int)))=((cc+u' (j+i)+aD V i:Nat):Int):=by
   rw[cr (x:=(u' (j+i):Int)) aa aa,cr (x:=(aD V i:Int)) aa aa,cr (x:=(u' (j+i):Int)+_) aa aa,cr aa aa]
   omega
  rw[m1,mq]
  refine⟨aa,aa,aa,aa,fun s' hv=>⟨(i+1,(cc+u' (j+i)+aD V i)/4294967296,cE u' (j+i) ((cc+u' (j+i)+aD V i)%4294967296)),ec hv ?_ ?_,⟨by simp only;omega,by simp only;omega,je aa hu',fun k hk=>?_,?_⟩,by simp only;omega⟩⟩
  ·rw[fE (a:=(i:Int)+1) (n:=i+1) aa aa]
   simp only[B3,fL,List.cons_append,List.nil_append,List.cons.injEq,AV.int.injEq,and_true,true_and]
   omega
  ·simp only[cX]
   congr 4
   funext k
   exact iA (by rw[kE]) k
  ·simp only at hk ⊢
   rw[gn aa]
   exact hout k aa
  ·simp only
   rw[val,val,val,kP,val_congr (y:=fun i=>u' (j+i)) fun k hk=>gn aa,iS,<-hout (j+i) aa]
   have:=EX (B:=2^(32*i)) (c:=cc) (z:=u' (j+i)) (y:=aD V i) rfl hval
   omega
 ·have hin:i=nl V:=aa
  subst hin
  rw[gI]at hval
  exact fZ (fin cc u' s' hc hu' hout hval hv)
end pieces
end Go.Am.B
namespace Go.Am.B
open Go Go.Am.N AV Proofs.Tryz IntKind
theorem yP {ls:List Nat} {vs:List AV} {os:aC} {s':aK} (hv:bA ls s'=some (vs,os)) {t:Nat} {v:AV} (ht:v.isTuple=false) (h:look t (aA ls vs)=some v):look t s'.cQ=some v:=by
 unfold bA at hv
 simp only[ay,Prod.mk.injEq]at hv
 obtain⟨rfl,_⟩:=hv
 exact Hg ht h
theorem ZN {V:Nat} {w:Nat->Nat} (hn:2<=nl V):V=(aD V (nl V-1)*4294967296+aD V (nl V-2))*2^(32*(nl V-2))+val (nl V-2) (aD V)/\
  val (nl V+1) w=((w (nl V)*4294967296+w (nl V-1))*4294967296+w (nl V-2))*2^(32*(nl V-2))+val (nl V-2) w:=by
 obtain⟨k,hk⟩:∃k,nl V=k+2:=⟨nl V-2,aa⟩
 constructor
 ·conv=>lhs;rw[<-gI (N:=V),hk]
  rw[hk,show k+2-1=k+1 by omega,show k+2-2=k by omega,val,val,iS]
  grind
 ·rw[hk,show k+2-1=k+1 by omega,show k+2-2=k by omega,val,val,val,iS,iS]
  grind
section pieces
variable {c:Ctx} (h0:∀k x,c.k0 k=some x->k<9) {Q:aq->aK->Prop} {lq s lu V j:Nat} {q u:Nat->Nat} {s':aK}
include h0 in
theorem ZF (hlu:lu<2^41) (hn:2<=nl V) (hnorm:2^31<=aD V (nl V-1)) (hj:j+nl V<lu) (hjq:j<lq) (hu:∀i,i<lu->u i<2^32) (hW:val (nl V+1) (fun i=>u (j+i))<V*4294967296)
  (fin:∀x u' s',x<4294967296->(∀i,i<lu->u' i<2^32)->(∀i,i<j\/j+nl V<i->u' i=u i)->val (nl V+1) (fun i=>u' (j+i))+x*V=val (nl V+1) (fun i=>u (j+i))->val (nl V+1) (fun i=>u' (j+i))<V->
   bA dr s'=some (fL lq s lu V j,cX lq lu (cE q j x) u')->Q .normal s'):
  ax P c f202.ntmps ry ⟨aA dr (fL lq s lu V j),cX lq lu q u,9⟩ Q:=by
 obtain⟨dV,dW⟩:=ZN (V:=V) (w:=fun i=>u (j+i)) hn
 have hVpos:0<V:=Nat.pos_of_ne_zero (g9.1 aa)
 have hP:0<2^(32*(nl V-2)):=Nat.two_pow_pos _
 have hl1:val (nl V-2) (aD V)<2^(32*(nl V-2)):=gq fun i _=>dY
 have hl2:val (nl V-2) (fun i=>u (j+i))<2^(32*(nl V-2)):=gq fun i _=>hu _ aa
 have hv1:aD V (nl V-1)<4294967296:=dY
 have hv2:aD V (nl V-2)<4294967296:=dY
 have u1:=hu (j+nl V) aa
 have u2:=hu (j+(nl V-1)) aa
 have u3:=hu (j+(nl V-2)) aa
 have hq1:val (nl V+1) (fun i=>u (j+i))/V*V<=val (nl V+1) (fun i=>u (j+i)):=Nat.div_mul_le_self _ _
 have hq2:val (nl V+1) (fun i=>u (j+i))<(val (nl V+1) (fun i=>u (j+i))/V+1)*V:=by
  rw[Nat.mul_comm];exact Nat.lt_mul_div_succ _ hVpos
 generalize hWd:val (nl V+1) (fun i=>u (j+i))=W at*
 generalize hqt:W/V=qt at*
 generalize hv1d:aD V (nl V-1)=v1 at*
 generalize hv2d:aD V (nl V-2)=v2 at*
 obtain⟨top,htop⟩:∃top,u (j+nl V)*4294967296+u (j+(nl V-1))=top:=⟨_,rfl⟩
 rw[htop]at dW
 have ktop:=ai0 hP (by decide) dV dW hv2 hl1 hW
 have kini:=abS hP (by decide) dV dW u3 hl2 aa hq1
 refine ax.hole [1,1,0] ah (aG.bE hT jX hm 60 pn ahF ah ?_)
 have w1:i64.wrap ((nl V:Int)-1)=((nl V-1:Nat):Int):=fE aa aa
 have w3:i64.wrap ((j:Int)+(nl V:Int))=((j+nl V:Nat):Int):=fE aa aa
 have w4:i64.wrap (((j+nl V:Nat):Int)-1)=((j+nl V-1:Nat):Int):=fE aa aa
 rw[w1,w3,w4]
 simp only[ag.all,az,bf,Nat.add_zero]
 have e1:j+nl V-1=j+(nl V-1):=aa
 rw[hv1d,e1,cr (x:=(u (j+nl V):Int)) aa aa,vv u1 u2,htop,cr (x:=(v1:Int)) aa aa]
 have htb:top<2^64:=aa
 have e2:u64.wrap ((top:Int).tdiv (v1:Int))=((top/v1:Nat):Int):=by
  rw[<-Int.ofNat_tdiv]
  exact cr aa (by have:=Nat.div_le_self top v1;omega)
 have e3:(top:Int).tmod (v1:Int)=((top%v1:Nat):Int):=(Int.ofNat_tmod _ _).symm
 rw[e2,e3]
 have hdm:=Nat.div_add_mod top v1
 have hml:=Nat.mod_lt top (show 0<v1 by omega)
 have hx34:top/v1<2^34:=by
  rw[Nat.div_lt_iff_lt_mul aa]
  have:2^34*2^31<=2^34*v1:=Nat.mul_le_mul_left _ hnorm
  omega
 refine⟨⟨aa,aa,aa,aa,aa⟩,⟨aa,aa,aa,aa⟩,fun s' hv=>?_⟩
 have e4:j+nl V-2=j+(nl V-2):=aa
 refine ai1 (top:=top) (qt:=qt) (v1:=v1) (v2:=v2) (u3:=u (j+(nl V-2))) h0 hlu hn hj hv1d hv2d (by rw[e4]) u3 (by rw[Nat.mul_comm];exact hdm) aa kini hx34 (ahP hq1 hW)
  (fun x rest ht h=>Vf dV dW hl2 ht hq1 h) (fun x rest ht h=>ad4 ht ktop h) hv fun x rest s' hx ht hq hxr hv=>?_
 have kend:=TS hP dV dW aa hl1 hx ht hxr
 show aG P c f202.ntmps (behind ry [1,1,0]) s' _
 refine aG.kV (nx:=9) hv h0 ah rfl ju ?_
 refine ax.hole [1,0,1] ah (aG.bE hT jX hm 60 xV adi ah fun s' hv=>?_)
 refine afq h0 hlu hj hx hu hv fun b cc u' s' hb hc hu' hout hval hv=>?_
 show aG P c f202.ntmps (behind uq [1,0,1]) s' _
 have hv:=jG (ls:=dr++[15,17,18]) (l:=[154,155,156]) (vs:=fL lq s lu V j++[.int .u64 (x:Nat),.int .u64 (b:Nat),.int .u64 (cc:Nat)]) hv rfl rfl
 refine aG.kV (nx:=9) hv h0 ah rfl ju ?_
 refine ax.hole [1,1,0,1] ah (aG.bE hT jX hm 60 (dr++[15,211]) abG ah ?_)
 rw[w3]
 simp only[ag.all,az,bf,Nat.add_zero,beq_iff_eq]
 have hun:=hu' (j+nl V) aa
 have houtn:u' (j+nl V)=u (j+nl V):=hout _ aa
 obtain⟨g1,g2⟩:=Nq (u:=u' (j+nl V)) (c:=cc) hun hc hb
 rw[g1,g2]
 refine⟨⟨aa,aa⟩,⟨aa,aa⟩,aa,fun s' hv=>?_⟩
 -- the limbs behind the multiplication
 have hWs:W=val (nl V) (fun i=>u (j+i))+u (j+nl V)*2^(32*nl V):=by rw[<-hWd,val]
 have hlow:val (nl V) (fun i=>u' (j+i))<2^(32*nl V):=gq fun i hi=>hu' _ aa
 have hVl:V<2^(32*nl V):=oD
 have put:∀{x:Nat} {u2:Nat->Nat} {s':aK} {Q':aq->aK->Prop},(∀s',Q .normal s'->Q' .normal s')->x<4294967296->(∀i,i<lu->u2 i<2^32)->(∀i,i<j\/j+nl V<i->u2 i=u i)->val (nl V+1) (fun i=>u2 (j+i))+x*V=W->val (nl V+1) (fun i=>u2 (j+i))<V->
   bA (dr++[15]) s'=some (fL lq s lu V j++[.int .u64 (x:Nat)],cX lq lu q u2)->aG P c f202.ntmps (behind Cz [1,1,0,1]) s' Q':=by
  intro x u2 s' Q' hQ hx h1 h2 h3 h4 hv
  refine aG.fS hT jX hm 60 (nx:=9) hv h0 rfl ju dr adl ah ah ?_
  simp only[ag.all,az,bf,Nat.add_zero,beq_iff_eq]
  refine⟨⟨aa,aa⟩,fun s' hv=>hQ _ (fin x u2 s' hx h1 h2 h3 h4 (ec hv rfl ?_))⟩
  simp only[cX]
  congr 4
  funext k
  exact iA (wrap_u32 aa aa) k
 have hset:(fun j_1=>if j_1=j+nl V then AV.int .u32 (((u' (j+nl V)+4294967296-cc-b)%4294967296:Nat):Int)else aB u' j_1)=aB (cE u' (j+nl V) ((u' (j+nl V)+4294967296-cc-b)%4294967296)):=by
  funext k;exact iA rfl k
 rw[hset]at hv
 have hval2:val (nl V+1) (fun i=>cE u' (j+nl V) ((u' (j+nl V)+4294967296-cc-b)%4294967296) (j+i))=val (nl V) (fun i=>u' (j+i))+(u' (j+nl V)+4294967296-cc-b)%4294967296*2^(32*nl V):=by
  rw[val,kP,val_congr fun k hk=>gn aa]
 have hrho:=yP hv (t:=211) (v:=.bool (((if cc+b<=u' (j+nl V)then 0 else 1:Nat):Int)!=0)) rfl rfl
 refine ax.cond (P:=P) (c:=c) (nt:=f202.ntmps) (b:=.tmp 211) (x:=sI) (y:=.skip) hrho (fun ht=>?_) (fun ht=>?_)
 ·-- one too many
  have hneg:¬cc+b<=u' (j+nl V):=by
   intro h
   rw[if_pos h]at ht
   simp at ht
  have hx0:0<x:=by
   rcases Nat.eq_zero_or_pos x with h|h
   ·subst h
    rw[Nat.zero_mul]at hval
    have h1:0<2^(32*nl V):=Nat.two_pow_pos _
    have:val (nl V) (fun i=>u (j+i))=val (nl V) (fun i=>u (j+i)):=rfl
    have hc0:cc+b=0:=by
     rcases Nat.eq_zero_or_pos (cc+b)with h|h
     ·exact h
     ·have h2:1*2^(32*nl V)<=(cc+b)*2^(32*nl V):=Nat.mul_le_mul_right _ h
      omega
    omega
   ·exact h
  have hv:=jG (ls:=dr++[15]) (l:=[211]) (vs:=fL lq s lu V j++[.int .u64 (x:Nat)]) hv rfl rfl
  have hu2:∀i,i<lu->cE u' (j+nl V) ((u' (j+nl V)+4294967296-cc-b)%4294967296) i<2^32:=je aa hu'
  refine ax.kV (nx:=9) hv h0 rfl ju ?_
  refine ax.hole [1,1,0,1] ah (aG.bE hT jX hm 60 wz ahk ah fun s' hv=>?_)
  have hx1:u64.wrap ((x:Int)-1)=((x-1:Nat):Int):=by rw[cr aa aa];omega
  rw[hx1]at hv
  refine ahh (x:=x-1) h0 hlu hj hu2 hv fun c2 u3 s' hc2 hu3 hout3 hval3 hv=>?_
  have hv:=jG (ls:=dr++[15,18]) (l:=[214,215,216]) (vs:=fL lq s lu V j++[.int .u64 ((x-1:Nat):Int),.int .u64 (c2:Nat)]) hv rfl rfl
  show aG P c f202.ntmps (behind sI [1,1,0,1]) s' _
  refine aG.fS hT jX hm 60 (nx:=9) hv h0 rfl ju (dr++[15]) SZ ah ah ?_
  rw[w3]
  simp only[ag.all,az,bf,Nat.add_zero,beq_iff_eq]
  refine⟨⟨aa,aa,aa,aa⟩,fun s' hv=>?_⟩
  have hu3n:=hu3 (j+nl V) aa
  have hadd:u32.wrap ((u3 (j+nl V):Int)+u32.wrap (c2:Int))=(((u3 (j+nl V)+c2)%4294967296:Nat):Int):=by
   rw[mI,mI];omega
  rw[hadd]at hv
  have hset3:(fun j_1=>if j_1=j+nl V then AV.int .u32 (((u3 (j+nl V)+c2)%4294967296:Nat):Int)else aB u3 j_1)=aB (cE u3 (j+nl V) ((u3 (j+nl V)+c2)%4294967296)):=by
   funext k;exact iA rfl k
  rw[hset3]at hv
  -- the sum
  have h3top:u3 (j+nl V)=(u' (j+nl V)+4294967296-cc-b)%4294967296:=by rw[hout3 _ aa,kP]
  have hlow3:val (nl V) (fun i=>cE u' (j+nl V) ((u' (j+nl V)+4294967296-cc-b)%4294967296) (j+i))=val (nl V) (fun i=>u' (j+i)):=val_congr fun k hk=>gn aa
  rw[hlow3]at hval3
  have hval4:val (nl V+1) (fun i=>cE u3 (j+nl V) ((u3 (j+nl V)+c2)%4294967296) (j+i))=val (nl V) (fun i=>u3 (j+i))+(u3 (j+nl V)+c2)%4294967296*2^(32*nl V):=by
   rw[val,kP,val_congr fun k hk=>gn aa]
  have hlow4:val (nl V) (fun i=>u3 (j+i))<2^(32*nl V):=gq fun i hi=>hu3 _ aa
  have hxV:x*V=(x-1)*V+V:=by
   obtain⟨y,rfl⟩:∃y,x=y+1:=⟨x-1,aa⟩
   simp[Nat.add_mul]
  have hsum:val (nl V) (fun i=>u3 (j+i))+(u3 (j+nl V)+c2)%4294967296*2^(32*nl V)+(x-1)*V=W/\val (nl V) (fun i=>u3 (j+i))+(u3 (j+nl V)+c2)%4294967296*2^(32*nl V)<V:=by
   have hq3:W<x*V:=by
    -- a borrow was left
    have h1:(u (j+nl V)+1)*2^(32*nl V)<=(cc+b)*2^(32*nl V):=Nat.mul_le_mul_right _ aa
    rw[Nat.add_mul,Nat.one_mul]at h1
    omega
   have hx4:(u3 (j+nl V)+c2)%4294967296*2^(32*nl V)+4294967296*2^(32*nl V)*((u' (j+nl V)+4294967296-cc-b)%4294967296+c2-(u3 (j+nl V)+c2)%4294967296+0)/4294967296=(u3 (j+nl V)+c2)%4294967296*2^(32*nl V)+4294967296*2^(32*nl V)*((u' (j+nl V)+4294967296-cc-b)%4294967296+c2-(u3 (j+nl V)+c2)%4294967296+0)/4294967296:=rfl
   clear hx4
   -- the top aD: u' - cc - b + c2, plus 2^32 or not
   rw[h3top]
   generalize hT1:2^(32*nl V)=T at*
   generalize hL0:val (nl V) (fun i=>u (j+i))=L0 at*
   generalize hL1:val (nl V) (fun i=>u' (j+i))=L1 at*
   generalize hL3:val (nl V) (fun i=>u3 (j+i))=L3 at*
   have hT0:0<T:=by rw[<-hT1];exact Nat.two_pow_pos _
   rw[houtn]
   rw[houtn]at hneg
   generalize hUn:u (j+nl V)=Un at*
   -- L3 + c2 T = L1 + V, L1 + x V = L0 + (cc + b) T, W = L0 + Un T, W < x V < W + V
   have hcase:cc+b=Un+1+(cc+b-Un-1):=aa
   have hd:cc+b-Un<=c2:=by
    rcases Nat.lt_or_ge c2 (cc+b-Un)with h|h
    ·exfalso
     have h5:(Un+c2+1)*T<=(cc+b)*T:=Nat.mul_le_mul_right _ aa
     rw[Nat.add_mul,Nat.add_mul,Nat.one_mul]at h5
     omega
    ·exact h
   have hc21:c2=1:=aa
   have hcb:cc+b=Un+1:=aa
   subst hc21
   have e5:(Un+4294967296-cc-b)%4294967296=4294967295:=aa
   rw[e5]
   rw[hcb,Nat.add_mul,Nat.one_mul]at hval
   simp only[Nat.one_mul]at hval3
   constructor
   ·simp;omega
   ·simp;omega
  rw[<-hval4]at hsum
  refine put (fun _ h=>h) aa (je aa hu3) (fun k hk=>?_) hsum.1 hsum.2 hv
  rw[gn aa,hout3 k aa,gn aa,hout k aa]
 ·have hpos:cc+b<=u' (j+nl V):=by
   rcases Nat.lt_or_ge (u' (j+nl V)) (cc+b)with h|h
   ·rw[if_neg aa]at ht
    simp at ht
   ·exact h
  refine ax.skip ?_
  have hv:=jG (ls:=dr++[15]) (l:=[211]) (vs:=fL lq s lu V j++[.int .u64 (x:Nat)]) hv rfl rfl
  have e5:(u' (j+nl V)+4294967296-cc-b)%4294967296=u' (j+nl V)-cc-b:=aa
  rw[e5]at hval2 hv
  have e6:u (j+nl V)*2^(32*nl V)=(u' (j+nl V)-cc-b)*2^(32*nl V)+(cc+b)*2^(32*nl V):=by
   rw[<-Nat.add_mul];congr 1;omega
  have h7:val (nl V+1) (fun i=>cE u' (j+nl V) (u' (j+nl V)-cc-b) (j+i))+x*V=W:=by
   rw[hval2];omega
  refine put (fun _ h=>h) hx (je aa hu') (fun k hk=>?_) h7 ?_ hv
  ·rw[gn aa,hout k aa]
  ·have h8:qt*V<=x*V:=Nat.mul_le_mul_right _ hq
   rw[Nat.add_mul,Nat.one_mul]at hq2
   omega
end pieces
end Go.Am.B
namespace Go.Am.B
open Go Go.Am.N AV Proofs.Tryz IntKind
theorem aG.cat {P:Program} {c:Ctx} {nt:Nat} {Q:aq->aK->Prop}:∀{a b:List Code} {s:aK},aG P c nt a s (eo (fun s'=>aG P c nt b s' Q) Q)->aG P c nt (a++b) s Q
 |[],b,s,h=>h
 |x::a,b,s,h=>ax.mono h fun e s' h=>by
  cases e with
  |normal=>exact aG.cat (a:=a) h
  |exit i=>exact h
  |ret=>exact h
theorem aG.chunk {P:Program} {c:Ctx} {nt:Nat} {Q:aq->aK->Prop} {l:List Code} {s:aK} (k:Nat) (h:aG P c nt (l.take k) s (eo (fun s'=>aG P c nt (l.drop k) s' Q) Q)):aG P c nt l s Q:=by
 have:=aG.cat h
 rwa [List.take_append_drop]at this
theorem MR {B s:Nat} (hB:B≠0) (hs:s=32-bN (aD B (nl B-1))):s<32/\nl (B*2^s)=nl B/\2^31<=aD (B*2^s) (nl B-1)/\B*2^s<2^(32*nl B):=by
 have hp:=g9.2 hB
 have htop:=Bo hB
 have hlt:=dY (N:=B) (i:=nl B-1)
 have hk:bN (aD B (nl B-1))<=32:=jr.2 hlt
 have hk0:0<bN (aD B (nl B-1)):=by unfold bN;rw[if_neg htop];omega
 have h1:aD B (nl B-1)<2^bN (aD B (nl B-1)):=jr.1 bz
 have h2:2^(bN (aD B (nl B-1))-1)<=aD B (nl B-1):=by
  rcases Nat.lt_or_ge (aD B (nl B-1)) (2^(bN (aD B (nl B-1))-1))with h|h
  ·have:=jr.2 h;omega
  ·exact h
 have hBd:B=val (nl B-1) (aD B)+aD B (nl B-1)*2^(32*(nl B-1)):=by
  have:=gI (N:=B)
  obtain⟨k,hk⟩:∃k,nl B=k+1:=⟨nl B-1,aa⟩
  rw[hk,val]at this
  rw[hk,Nat.add_sub_cancel]
  exact this.symm
 have hlow:val (nl B-1) (aD B)<2^(32*(nl B-1)):=gq fun i _=>dY
 generalize hb1:aD B (nl B-1)=b1 at*
 generalize hkd:bN b1=k at*
 generalize hlo:val (nl B-1) (aD B)=low at*
 have hT:0<2^(32*(nl B-1)):=Nat.two_pow_pos _
 have eT:2^(32*nl B)=2^32*2^(32*(nl B-1)):=by rw[<-Nat.pow_add];congr 1;omega
 have hS:0<2^s:=Nat.two_pow_pos _
 have hks:2^k*2^s=2^32:=by rw[<-Nat.pow_add];congr 1;omega
 have hks1:2^(k-1)*2^s=2^31:=by rw[<-Nat.pow_add];congr 1;omega
 have hlo1:2^31<=b1*2^s:=by rw[<-hks1];exact Nat.mul_le_mul_right _ h2
 have hhi1:(b1+1)*2^s<=2^32:=by rw[<-hks];exact Nat.mul_le_mul_right _ h1
 obtain⟨T,hTd⟩:∃T,T=2^(32*(nl B-1)):=⟨_,rfl⟩
 rw[<-hTd]at hT eT hBd hlow
 have hVlt:B*2^s<2^32*T:=by
  have a1:B<(b1+1)*T:=by rw[Nat.add_mul,Nat.one_mul];omega
  have a2:B*2^s<(b1+1)*T*2^s:=(Nat.mul_lt_mul_right hS).2 a1
  have a3:(b1+1)*T*2^s=(b1+1)*2^s*T:=by rw[Nat.mul_assoc,Nat.mul_comm T,<-Nat.mul_assoc]
  have a4:(b1+1)*2^s*T<=2^32*T:=Nat.mul_le_mul_right _ hhi1
  omega
 have hVge:b1*2^s*T<=B*2^s:=by
  have a1:b1*T*2^s<=B*2^s:=Nat.mul_le_mul_right _ aa
  have a3:b1*T*2^s=b1*2^s*T:=by rw[Nat.mul_assoc,Nat.mul_comm T,<-Nat.mul_assoc]
  omega
 have hV31:2^31*T<=B*2^s:=Nat.le_trans (Nat.mul_le_mul_right _ hlo1) hVge
 refine⟨aa,?_,?_,by rw[eT];exact hVlt⟩
 ·have a1:nl (B*2^s)<=nl B:=dF.2 (by rw[eT];exact hVlt)
  have a2:¬nl (B*2^s)<=nl B-1:=by
   rw[dF,<-hTd]
   omega
  omega
 ·unfold aD
  rw[<-hTd]
  have a1:B*2^s/T<2^32:=by rw[Nat.div_lt_iff_lt_mul hT];exact hVlt
  have a2:2^31<=B*2^s/T:=by rw[Nat.le_div_iff_mul_le hT];exact hV31
  rw[Nat.mod_eq_of_lt a1];exact a2
section pieces
variable {c:Ctx} (h0:∀k x,c.k0 k=some x->k<9) {Q:aq->aK->Prop} {lq s lu V:Nat} {q u:Nat->Nat} {s':aK}
include h0 in
theorem aia {N:Nat} (hlu:lu=lq+nl V) (hlu2:lu<2^41) (hn:2<=nl V) (hnorm:2^31<=aD V (nl V-1)) (hu:∀i,i<lu->u i<2^32) (hN:val lu u=N) (hlt:N<V*2^(32*lq))
  (hv:bA dr s'=some (fL lq s lu V ((lq:Int)-1),cX lq lu (fun _=>0) u))
  (fin:∀q u s',(∀i,i<lu->u i<2^32)->(∀i,i<lq->q i<2^32)->val lq q*V+val lu u=N->val lu u<V->bA dr s'=some (fL lq s lu V (-1),cX lq lu q u)->Q .normal s'):
  ax P c f202.ntmps (part (aF f202) nN) s' Q:=by
 refine ax.iH (i:=1) (y:=yY) ah dr 9 h0 (fun p:Nat×(Nat->Nat)×(Nat->Nat)=>fL lq s lu V ((p.1:Int)-1)) (fun p=>cX lq lu p.2.1 p.2.2) (fun _=>rfl) (fun _=>ju)
  (fun p=>p.1<=lq/\(∀i,i<lu->p.2.2 i<2^32)/\(∀i,i<lq->p.2.1 i<2^32)/\(∀i,i<p.1->p.2.1 i=0)/\(∀i,p.1+nl V<=i->i<lu->p.2.2 i=0)/\val lq p.2.1*V+val (p.1+nl V) p.2.2=N/\val (p.1+nl V) p.2.2<V*2^(32*p.1))
  (fun p=>p.1) (lq,(fun _=>0),u) hv ⟨by simp,hu,fun i _=>by simp,fun i _=>rfl,fun i h1 h2=>by simp only at h1;omega,?_,?_⟩ ?_
 ·simp only;rw[val_zero fun _ _=>rfl,<-hlu,hN];omega
 ·simp only;rw[<-hlu,hN];exact hlt
 rintro⟨m,q,u⟩ ⟨hm',hu,hq,hq0,hu0,hval,hlt⟩
 simp only at hm' hu hq hq0 hu0 hval hlt
 refine ax.hole [1,0] ah (aG.bE hT jX hm 60 dr So ah ?_)
 simp only[ag.all,bk,bt]
 refine⟨fun hb s' hv=>?_,fun hb s' hv=>?_⟩
 ·obtain⟨j,rfl⟩:∃j,m=j+1:=⟨m-1,aa⟩
  have hv:bA dr s'=some (fL lq s lu V (j:Nat),cX lq lu q u):=ec hv (by
   simp only[fL,List.cons.injEq,AV.int.injEq,and_true,true_and];omega) rfl
  have hsplit:=val_add (z:=u) (a:=j) (b:=nl V+1)
  rw[show j+(nl V+1)=j+1+nl V by omega]at hsplit
  have hBj:0<2^(32*j):=Nat.two_pow_pos _
  have hW:val (nl V+1) (fun i=>u (j+i))<V*4294967296:=by
   have e:V*2^(32*(j+1))=V*4294967296*2^(32*j):=by rw[iS,Nat.mul_assoc]
   rw[e]at hlt
   refine Nat.lt_of_mul_lt_mul_right (a:=2^(32*j)) ?_
   omega
  refine ax.qw (i:=2) (y:=ry) ah (ax.kV (nx:=9) hv h0 rfl ju ?_)
  refine ZF h0 hlu2 hn hnorm aa aa hu hW fun x u' s' hx hu' hout hsum hlt' hv=>?_
  show aG P c f202.ntmps (behind yY [1,0]) s' _
  refine aG.fS hT jX hm 60 (nx:=9) hv h0 rfl ju dr agR ah ah fun s' hv=>?_
  have hjl:val j u'=val j u:=val_congr fun i hi=>hout i aa
  have hsplit':=val_add (z:=u') (a:=j) (b:=nl V+1)
  have hVl:V<2^(32*nl V):=oD
  have htop0:u' (j+nl V)=0:=adw (z:=fun i=>u' (j+i)) (n:=nl V) aa
  have hsplit2:=val_add (z:=u') (a:=j) (b:=nl V)
  have hw1:val (nl V+1) (fun i=>u' (j+i))=val (nl V) (fun i=>u' (j+i)):=by rw[val,htop0];simp
  have hjlt:val j u<2^(32*j):=gq fun i hi=>hu i aa
  refine⟨(j,cE q j x,u'),ec hv ?_ rfl,⟨by simp only;omega,hu',je hx hq,fun i hi=>?_,fun i h1 h2=>?_,?_,?_⟩,by simp only;omega⟩
  ·simp only[fL,List.cons.injEq,AV.int.injEq,and_true,true_and]
   rw[wrap_i64 aa aa]
  ·simp only at hi ⊢
   rw[gn aa];exact hq0 i aa
  ·simp only at h1
   show u' i=0
   by_cases hi:i=j+nl V
   ·subst hi;exact htop0
   ·rw[hout i aa];exact hu0 i aa h2
  ·simp only
   rw[tV aa (hq0 j aa),hsplit2,hjl,<-hw1]
   rw[hsplit,<-hsum]at hval
   rw[Nat.add_mul]at hval ⊢
   rw[show x*2^(32*j)*V=x*V*2^(32*j) by rw[Nat.mul_assoc,Nat.mul_comm (2^(32*j)),<-Nat.mul_assoc]]
   omega
  ·simp only
   rw[hsplit2,hjl,<-hw1]
   have:=Nat.mul_le_mul_right (2^(32*j)) hlt'
   rw[Nat.succ_mul]at this
   omega
 ·have hm0:m=0:=aa
  subst hm0
  refine rS (fZ (fin q u s' hu hq ?_ ?_ (ec hv rfl rfl)))
  ·rw[nR (k:=0+nl V) aa hu0];exact hval
  ·rw[nR (k:=0+nl V) aa hu0];simpa using hlt
theorem ahZ {x s:Nat} (h:s<32):(x:Int).fdiv (2^min ((s:Int).toNat) u32.bits)=((x/2^s:Nat):Int):=by
 have:=wN (x:=x) (s:=(s:Int)) aa aa
 simpa using this
theorem Yb {a b:Nat} (ha:a<2^32) (hb:b<2^32):
  u32.wrap ((BitVec.ofInt u32.bits (a:Int)|||BitVec.ofInt u32.bits (b:Int)).toNat:Int)=((a|||b:Nat):Int):=by
 have e:(BitVec.ofInt u32.bits (a:Int)|||BitVec.ofInt u32.bits (b:Int)).toNat=a|||b:=by
  rw[BitVec.toNat_or,BitVec.ofInt_natCast,BitVec.ofInt_natCast,BitVec.toNat_ofNat,BitVec.toNat_ofNat]
  rw[show u32.bits=32 from rfl,Nat.mod_eq_of_lt ha,Nat.mod_eq_of_lt hb]
 rw[e]
 have:a|||b<2^32:=Nat.or_lt_two_pow ha hb
 exact wrap_u32 aa aa
theorem XZ {a b s:Nat} (hs:s<32) (ha:a<2^32):u32.wrap ((BitVec.ofInt u32.bits ((a/2^s:Nat):Int)|||BitVec.ofInt u32.bits (u32.wrap ((b:Int)*2^min (32-s) u32.bits))).toNat:Int)=
  ((a/2^s+b%2^s*2^(32-s):Nat):Int):=by
 have hB:2^32=2^s*2^(32-s):=by rw[<-Nat.pow_add];congr 1;omega
 have h1:a/2^s<2^(32-s):=by
  rw[Nat.div_lt_iff_lt_mul (Nat.two_pow_pos _),Nat.mul_comm,<-hB];exact ha
 have e1:u32.wrap ((b:Int)*2^min (32-s) u32.bits)=((b%2^s*2^(32-s):Nat):Int):=by
  rw[show u32.bits=32 from rfl,Nat.min_eq_left aa]
  rw[show(b:Int)*2^(32-s)=((b*2^(32-s):Nat):Int) by simp,kE]
  congr 1
  rw[hB,Nat.mul_comm (2^s),Nat.mul_comm b,Nat.mul_mod_mul_left,Nat.mul_comm]
 have h2:b%2^s*2^(32-s)<2^32:=by
  rw[hB]
  exact(Nat.mul_lt_mul_right (Nat.two_pow_pos _)).2 (Nat.mod_lt _ (Nat.two_pow_pos _))
 have h3:a/2^s<2^32:=Nat.lt_of_le_of_lt (Nat.div_le_self _ _) ha
 rw[e1,Yb h3 h2]
 congr 1
 rw[Nat.or_comm,r8 h1,Nat.add_comm]
abbrev m8:List Nat:=[4,5,9,261,262]
abbrev sX (lq s l i:Nat):List AV:=[.own 8 1 0 lq,.own 7 1 0 l,.int .i64 s,.int .i64 l,.int .i64 (i:Nat)]
include h0 in
theorem ag4 {l R:Nat} (hs:s<32) (hlu:lu<2^41) (hl:nl R=l) (hl2:l<=lu) (hu:∀i,i<lu->u i<2^32) (hR:∀i,i<l->u i=aD R i)
  (hv:bA m8 s'=some (sX lq s l 0,cX lq lu q u))
  (fin:∀w s',(∀i,i<lu->w i<2^32)->val l w=R/2^s->bA m8 s'=some (sX lq s l l,cX lq lu q w)->Q .normal s'):
  ax P c f202.ntmps (part mO [1,0,1]) s' Q:=by
 refine ax.iH (i:=9) (y:=part mO [1,0,1,0,0]) ah m8 9 h0 (fun p:Nat×(Nat->Nat)=>sX lq s l p.1) (fun p=>cX lq lu q p.2) (fun _=>rfl) (fun _=>ju)
  (fun p=>p.1<=l/\(∀i,i<lu->p.2 i<2^32)/\(∀i,i<p.1->p.2 i=aD (R/2^s) i)/\(∀i,p.1<=i->p.2 i=u i))
  (fun p=>l-p.1) (0,u) hv ⟨by simp,hu,fun i hi=>by simp only at hi;omega,fun i _=>rfl⟩ ?_
 rintro⟨i,w⟩ ⟨hi,hw,hdone,hrest⟩
 simp only at hi hw hdone hrest
 refine ax.hole [1,1,0] ah (aG.bE hT ze hm 60 m8 aiu ah ?_)
 simp only[ag.all,bk,bt]
 refine⟨fun hb s' hv=>?_,fun hb s' hv=>?_⟩
 ·have hil:i<l:=aa
  have hwi:w i=aD R i:=by rw[hrest i aa,hR i hil]
  refine ax.qw (i:=10) (y:=part mO [1,0,1,0,0,1,1,0,0]) ah (ax.kV (nx:=9) hv h0 rfl ju ?_)
  refine ax.hole [1,1] ah (aG.bE hT ze hm 60 [4,5,9,25,261,262] aaX ah ?_)
  rw[ahZ hs]
  simp only[ag.all,az,bf,Nat.add_zero,beq_iff_eq]
  refine⟨⟨aa,aa,aa,aa,aa⟩,fun s' hv=>?_⟩
  have hset:(fun j=>if j=i then AV.int .u32 ((w i/2^s:Nat):Int)else aB w j)=aB (cE w i (w i/2^s)):=by
   funext k;exact iA rfl k
  rw[hset]at hv
  have hw1:∀k,k<lu->cE w i (w i/2^s) k<2^32:=je (Nat.lt_of_le_of_lt (Nat.div_le_self _ _) (hw i aa)) hw
  have next:∀{w':Nat->Nat} {s':aK} {Q':aq->aK->Prop},(∀k,k<lu->w' k<2^32)->w' i=aD (R/2^s) i->(∀k,k≠i->w' k=w k)->bA m8 s'=some (sX lq s l i,cX lq lu q w')->
    aG P c f202.ntmps (behind (part mO [1,0,1,0,0]) [1,1,0]) s' (eo (fun s'=>∃k:Nat×(Nat->Nat),bA m8 s'=some (sX lq s l k.1,cX lq lu q k.2)/\(k.1<=l/\(∀i,i<lu->k.2 i<2^32)/\(∀i,i<k.1->k.2 i=aD (R/2^s) i)/\(∀i,k.1<=i->k.2 i=u i))/\l-k.1<l-i) Q'):=by
   intro w' s' Q' h1 h2 h3 hv
   refine aG.fS hT ze hm 60 (nx:=9) hv h0 rfl ju m8 Ry ah ah fun s' hv=>?_
   refine⟨(i+1,w'),ec hv ?_ rfl,⟨by simp only;omega,h1,fun k hk=>?_,fun k hk=>?_⟩,by simp only;omega⟩
   ·rw[fE (a:=(i:Int)+1) (n:=i+1) aa aa]
   ·simp only at hk ⊢
    by_cases hki:k=i
    ·rw[hki];exact h2
    ·rw[h3 k hki];exact hdone k aa
   ·simp only at hk ⊢
    rw[h3 k aa];exact hrest k aa
  refine ax.fS hT ze hm 60 (nx:=9) hv h0 rfl ju m8 Z5 ah ?_
  have w1:i64.wrap ((i:Int)+1)=((i+1:Nat):Int):=fE aa aa
  have w2:i64.wrap (32-(s:Int))=((32-s:Nat):Int):=fE aa aa
  rw[w1,w2]
  simp only[bf,Nat.add_zero,kP]
  rw[XZ hs (hw i aa)]
  have e1:cE w i (w i/2^s) (i+1)=w (i+1):=gn aa
  rw[e1]
  have same:aD R (i+1)%2^s=0->∀{s':aK},bA m8 s'=some (sX lq s l i,cX lq lu q (cE w i (w i/2^s)))->∀{Q':aq->aK->Prop},aG P c f202.ntmps (behind (part mO [1,0,1,0,0]) [1,1,0]) s' (eo (fun s'=>∃k:Nat×(Nat->Nat),bA m8 s'=some (sX lq s l k.1,cX lq lu q k.2)/\(k.1<=l/\(∀i,i<lu->k.2 i<2^32)/\(∀i,i<k.1->k.2 i=aD (R/2^s) i)/\(∀i,k.1<=i->k.2 i=u i))/\l-k.1<l-i) Q'):=by
   intro h s' hv Q'
   refine next hw1 ?_ (fun k hk=>gn hk) hv
   rw[kP,wA hs,h,hwi];simp
  refine⟨fun h1=>⟨h1,fun h2=>?_,fun h2 s' hv=>?_⟩,fun h1=>⟨h1,fun h2=>by simp at h2,fun h2 s' hv=>?_⟩⟩
  ·have h2':i+1<l:=by
    have:=of_decide_eq_true (show decide (((i+1:Nat):Int)<(l:Int))=true from h2)
    omega
   simp only[ag.all,az,beq_iff_eq]
   refine⟨⟨aa,aa,aa,aa,aa,aa,aa⟩,fun s' hv=>?_⟩
   have hset2:(fun j=>if j=i then AV.int .u32 ((w i/2^s+w (i+1)%2^s*2^(32-s):Nat):Int)else aB (cE w i (w i/2^s)) j)=aB (cE w i (w i/2^s+w (i+1)%2^s*2^(32-s))):=by
    funext k
    unfold aB cE
    by_cases hk:k=i
    ·simp[hk]
    ·simp[hk]
   rw[hset2]at hv
   have hwi1:w (i+1)=aD R (i+1):=by rw[hrest _ aa,hR _ h2']
   have hval:w i/2^s+w (i+1)%2^s*2^(32-s)=aD (R/2^s) i:=by rw[wA hs,hwi,hwi1]
   refine next (je (by rw[hval];exact dY) hw) ?_ (fun k hk=>gn hk) hv
   rw[kP];exact hval
  ·refine same ?_ hv
   have h2':¬i+1<l:=by
    have:=of_decide_eq_false (show decide (((i+1:Nat):Int)<(l:Int))=false from h2)
    omega
   have hR0:R<2^(32*(i+1)):=dF.1 aa
   unfold aD
   rw[Nat.div_eq_of_lt hR0];simp
  ·have:s=0:=by
    have:=of_decide_eq_false h1
    omega
   refine same ?_ hv
   subst this
   simp[Nat.mod_one]
 ·have hil:i=l:=aa
  subst hil
  refine rS (fZ (fin w s' hw ?_ hv))
  rw[val_congr hdone,qi]
  exact Nat.lt_of_le_of_lt (Nat.div_le_self _ _) (dF.1 aa)
end pieces
end Go.Am.B
namespace Go.Am.B
open Go Go.Am.N AV Proofs.Tryz IntKind
abbrev ow (A B:Nat):AV:=.tuple [.mag (A/B),.mag (if B=0 then 0 else A%B),.int .i64 (if B=0 then 3 else 0)]
theorem ahU {n N:Nat}:eG n (aB (aD N)):=gV fun _ _=>dY
theorem AN {a b:Nat}:cZ a b<0↔a<b:=by
 unfold cZ
 split
 ·simp_all
 ·split<;>simp_all
theorem cJ {k:aK->Prop} {Q:aq->aK->Prop} {s:aK} (h:k s):eo k Q .normal s:=h
theorem Vk {c:Ctx} (h0:c.k0=bG) {A B:Nat} (hA:nl A<2^40) (hn2:2<=nl B) (hAB:B<=A) {Q:aq->aK->Prop} {s':aK}
  (hv:bA [0,1,4,5,6] s'=some ([.mag A,.mag B,.nil,.nil,.int .i64 0],[]))
  (fin:∀s lq V s',s<32->V=B*2^s->nl V=nl B->2^31<=aD V (nl V-1)->lq+nl V=nl A+1->(∃ρ,Le c ρ s' ⟨aA dr (fL lq s (nl A+1) V ((lq:Int)-1)),cX lq (nl A+1) (fun _=>0) (aD (A*2^s)),9⟩)->Q .normal s'):
  aG P c f202.ntmps ((before (aF f202) nN).drop (2+1)) s' Q:=by
 have hk0:∀{nx:Nat} k x,c.k0 k=some x->k<nx:=kX h0
 have hABn:nl B<=nl A:=iI hAB
 have hB0:B≠0:=fun h=>by subst h;simp[nl]at hn2
 refine aG.chunk 1 (aG.fS hT jX hm 60 (nx:=0) hv hk0 rfl trivial [0,1,9] Vz ah ah ?_)
 have w1:i64.wrap ((nl B:Int)-1)=((nl B-1:Nat):Int):=fE aa aa
 rw[w1]
 simp only[ag.all,az,bf]
 have hlB:=dY (N:=B) (i:=nl B-1)
 refine⟨⟨aa,aa⟩,fun s' hv=>cJ ?_⟩
 obtain⟨s,hs⟩:∃s,s=32-bN (aD B (nl B-1)):=⟨_,rfl⟩
 rw[<-hs]at hv
 obtain⟨hs32,hnV,hnorm,hVlt⟩:=MR hB0 hs
 rw[List.drop_drop]
 refine aG.chunk 1 (aG.fS hT jX hm 60 (nx:=0) hv hk0 rfl trivial [9,10,11] UO ah ah ?_)
 simp only[ag.all,az,bf,Nat.add_zero]
 refine⟨⟨aa,aa,aa,aa,aa,aa,ahU,aa⟩,fun s' hv=>cJ ?_⟩
 have hV1:(val (nl B+1) fun i=>numOf (aB (aD (B*2^s)) i))=B*2^s:=by
  rw[kq,qi]
  exact Nat.lt_of_lt_of_le hVlt (Nat.pow_le_pow_right aa aa)
 rw[hV1]at hv
 obtain⟨V,hV⟩:∃V,V=B*2^s:=⟨_,rfl⟩
 rw[<-hV]at hv hnV hnorm hVlt
 obtain⟨lq,hlq⟩:∃lq,lq=nl A+1-nl V:=⟨_,rfl⟩
 rw[List.drop_drop]
 refine aG.weak ah (dL (vs:=[.int .i64 s,.own 7 1 0 (nl A+1),.mag V]) (ps:=[(7,⟨true,true,1,nl A+1,aB (aD (A*2^s))⟩)]) (nx:=8) [(7,8192)] hv h0 rfl
  ⟨aL,⟨rfl,cP rfl rfl rfl⟩,aL,trivial⟩ ⟨⟨_,_,rfl,rfl,gi rfl fun j _=>rfl⟩,trivial⟩) ?_
 refine aG.bE hT jX hm 60 dr UD ah ?_
 have w2:i64.wrap (((nl A+1:Nat):Int)-(nl V:Int))=((lq:Nat):Int):=fE aa aa
 have w3:i64.wrap ((lq:Int)-1)=(lq:Int)-1:=wrap_i64 aa aa
 rw[w2]
 simp only[ag.all,az,bf,w3]
 exact⟨aa,fun s' hv=>fin s lq V s' hs32 hV hnV (by rw[hnV];exact hnorm) aa (dL (vs:=fL lq s (nl A+1) V ((lq:Int)-1)) (ps:=cX lq (nl A+1) (fun _=>0) (aD (A*2^s))) (nx:=9) [(7,7),(8,28680)] hv h0 rfl
  ⟨⟨rfl,cP rfl rfl rfl⟩,aL,⟨rfl,cP rfl rfl rfl⟩,aL,aL,aL,trivial⟩
  ⟨⟨_,_,rfl,rfl,gi rfl fun j _=>rfl⟩,⟨_,_,rfl,rfl,gi rfl fun j _=>rfl⟩,trivial⟩)⟩
theorem Tf {A B V s lq:Nat} (hs:s<32) (hV:V=B*2^s) (hn2:2<=nl B) (hnV:nl V=nl B) (hnorm:2^31<=aD V (nl V-1)) (hlq:lq+nl V=nl A+1):A*2^s<2^(32*(nl A+1))/\A*2^s<V*2^(32*lq):=by
 have hS:0<2^s:=Nat.two_pow_pos _
 have hS31:2^s<=2^31:=Nat.pow_le_pow_right aa aa
 have hAl:A<2^(32*nl A):=oD
 have hA2:A*2^s<2^(32*nl A)*2^31:=
  Nat.lt_of_lt_of_le ((Nat.mul_lt_mul_right hS).2 hAl) (Nat.mul_le_mul_left _ hS31)
 have hA3:A*2^s<2^(32*(nl A+1)):=by
  rw[iS];omega
 refine⟨hA3,?_⟩
 have hsp:V=val (nl V-1) (aD V)+aD V (nl V-1)*2^(32*(nl V-1)):=by
  have:=gI (N:=V)
  obtain⟨k,hk⟩:∃k,nl V=k+1:=⟨nl V-1,aa⟩
  rw[hk,val]at this
  rw[hk,Nat.add_sub_cancel]
  exact this.symm
 have h2:2^31*2^(32*(nl V-1))<=V:=by
  have:=Nat.mul_le_mul_right (2^(32*(nl V-1))) hnorm
  omega
 have h3:=Nat.mul_le_mul_right (2^(32*lq)) h2
 have e:2^31*2^(32*(nl V-1))*2^(32*lq)=2^(32*nl A)*2^31:=by
  rw[Nat.mul_assoc,<-Nat.pow_add,Nat.mul_comm]
  congr 2
  omega
 omega
theorem aei {c:Ctx} (h0:∀k x,c.k0 k=some x->k<9) {A B V s lq:Nat} (hA:nl A<2^40) (hB0:B≠0) (hs:s<32) (hV:V=B*2^s) (hn2:2<=nl B) (hnV:nl V=nl B) (hnorm:2^31<=aD V (nl V-1)) (hlq:lq+nl V=nl A+1):
  ax P c f202.ntmps (part (aF f202) nN) ⟨aA dr (fL lq s (nl A+1) V ((lq:Int)-1)),cX lq (nl A+1) (fun _=>0) (aD (A*2^s)),9⟩
   (eo (fun s'=>aG P c f202.ntmps (behind (aF f202) nN) s' (Fin T f202 (ow A B))) (Fin T f202 (ow A B))):=by
 obtain⟨z1,z2⟩:=Tf (A:=A) hs hV hn2 hnV hnorm hlq
 have hS:0<2^s:=Nat.two_pow_pos _
 refine aia (N:=A*2^s) h0 aa aa aa hnorm (fun i _=>dY) (qi z1) z2 rfl fun q u s' hu hq hsum hlt hv=>cJ ?_
 have hR:val (nl A+1) u=A%B*2^s:=by
  have h1:(A*2^s)%V=val (nl A+1) u:=by
   rw[<-hsum,Nat.mul_comm,Nat.mul_add_mod];exact Nat.mod_eq_of_lt hlt
  rw[<-h1,hV,Nat.mul_mod_mul_right]
 have hQ:val lq q=A/B:=by
  have h1:(A*2^s)/V=val lq q:=by
   rw[<-hsum,Nat.mul_comm,Nat.mul_add_div aa,Nat.div_eq_of_lt hlt];omega
  rw[<-h1,hV,Nat.mul_div_mul_right _ _ hS]
 have hRl:∀i,i<nl (val (nl A+1) u)->u i=aD (val (nl A+1) u) i:=fun i hi=>(pZ hu (Nat.lt_of_lt_of_le hi (dF.2 (gq hu)))).symm
 refine aG.kV (nx:=9) hv h0 ah rfl ju ?_
 show aG P c f202.ntmps [mO] _ _
 refine ax.hole [1,0,1] ah (aG.bE hT ze hm 60 m8 aiA ah ?_)
 simp only[ag.all,az,kq]
 refine⟨⟨gV hu,trivial,aa⟩,fun s' hv=>cJ ?_⟩
 refine ag4 (lu:=nl A+1) (u:=u) h0 hs aa rfl (dF.2 (gq hu)) hu hRl hv fun w s' hw hval hv=>cJ ?_
 refine aG.mono (Q:=Fin T f202 (ow A B)) (fun e s' h=>by cases e<;>exact h) ?_
 refine aG.zT hT iq hm 60 (nx:=9) hv h0 rfl ju Uu ah ah ?_
 simp only[ag.all,az,Nat.add_zero,kq]
 have hll:nl (val (nl A+1) u)<=nl A+1:=dF.2 (gq hu)
 refine⟨⟨gV hq,aa,gV fun i hi=>hw i aa,aa⟩,dX (by rw[hQ]),dX ?_,bS (by simp[hB0]),trivial⟩
 rw[if_neg hB0,hval,hR,Nat.mul_div_cancel _ hS]
theorem YS {n m:Nat} {z y:Nat->Nat} (hz:∀i,i<n->z i<2^32) (hy:∀i,i<m->y i<2^32) (hn:n<2^40) (hm':m<2^40) (K:Nat) (pre:aC):
  aS P 202 K [.ak 1 n (aB z),.ak 1 m (aB y)] pre (aJ (ow (val n z) (val m y)) []):=by
 refine kG hT Rw rfl aV rfl (fun _ c h0=>?_) K pre
 have hk0:∀{nx:Nat} k x,c.k0 k=some x->k<nx:=kX h0
 have hA:nl (val n z)<=n:=dF.2 (gq hz)
 have hB:nl (val m y)<=m:=dF.2 (gq hy)
 refine ax.hole nN ah (aG.chunk 2 (aG.bE hT jX hm 60 [0,1,4,5,6] ait ah ?_))
 simp only[ag.all,az,kq]
 generalize val n z=A at*
 generalize val m y=B at*
 refine⟨⟨gV hz,aa,gV hy,aa⟩,fun s' hv=>cJ ?_⟩
 refine aG.chunk 1 (aG.fS hT jX hm 60 (nx:=0) hv hk0 rfl trivial [0,1,4,5,6] aeH ah ah ?_)
 simp only[ag.all,az,beq_iff_eq,beq_eq_false_iff_ne,ne_eq,bk,bt,AN]
 have hnl0:nl B=0↔B=0:=⟨fun h=>by
  rcases Nat.eq_zero_or_pos B with h1|h1
  ·exact h1
  ·have:=g9.2 (show B≠0 by omega);omega,fun h=>by subst h;rfl⟩
 refine⟨fun hb s' hv=>?_,fun hb=>⟨⟨aa,aa⟩,fun hlt=>⟨aa,fun s' hv=>?_⟩,fun hge=>⟨fun h1=>?_,fun h1 s' hv=>cJ ?_⟩⟩⟩
 ·have hB0:B=0:=hnl0.1 aa
  subst hB0
  refine fW (fW ?_)
  exact gX (us:=[.nil,.nil,.int .i64 3]) (.inr rfl) hv ah ⟨by simpa using lO,lO,bS (by simp),trivial⟩
 ·have hB0:B≠0:=fun h=>hb (by rw[hnl0.2 h];rfl)
  refine fW (fW ?_)
  refine gX (us:=[.nil,.mag A,.int .i64 0]) (.inr rfl) hv ah ⟨?_,dX ?_,bS (by simp[hB0]),trivial⟩
  ·rw[Nat.div_eq_of_lt hlt];exact lO
  ·rw[if_neg hB0,Nat.mod_eq_of_lt hlt]
 ·have h1':nl B=1:=aa
  have hB0:B≠0:=fun h=>hb (by rw[hnl0.2 h];rfl)
  have hl0:aD B 0=B:=by
   have:=gI (N:=B)
   rw[h1',val,val]at this
   simpa using this
  have hBlt:B<2^32:=by rw[<-hl0];exact dY
  have hmod:A%B<2^32:=Nat.lt_trans (Nat.mod_lt _ aa) hBlt
  simp only[Int.toNat_zero,hl0,bf]
  have hf:(fun i=>nth [AV.int .u32 ((A%B:Nat):Int)] (.int .u32 0) (i+0))=fun i=>aB (fun i=>if i=0 then A%B else 0) i:=by
   funext i
   cases i with
   |zero=>simp[nth,aB]
   |succ i=>simp[nth,aB]
  rw[hf]
  refine⟨⟨aa,aa,aa,aa⟩,⟨aa,gV (fun i hi=>by split<;>omega),aa⟩,fun s' hv=>fW (fW ?_)⟩
  refine gX (vs:=[.mag A,.mag B,.mag (A/B),.mag (A%B),.int .i64 0]) (os:=[]) (us:=[.mag (A/B),.mag (A%B),.int .i64 0]) (.inr rfl) (ec hv ?_ rfl) ah ⟨.refl _,dX (by rw[if_neg hB0]),bS (by simp[hB0]),trivial⟩
  simp[val,nth,numOf]
  rw[<-Int.natCast_emod,bf]
 have hB0:B≠0:=fun h=>hb (by rw[hnl0.2 h];rfl)
 have hn2:2<=nl B:=by have:=g9.2 hB0;omega
 rw[List.drop_drop]
 refine Vk h0 aa hn2 aa hv fun s lq V s' hs hV hnV hnorm hlq hle=>cJ ?_
 exact ax.ja hle (aei hk0 aa hB0 hs hV hn2 hnV hnorm hlq)
def Em (A n B m:Nat):dI:=aJ (ow A B) [n<2^40,m<2^40]
theorem PC:aU P (bY (iU Em)) 202:=
 cF (vX fun _ _ _ _ K hz hy need=>YS hz hy need.1 need.2 K [])
theorem YA:aW 150 f150:=aT func150
def GG:aX:=(202,bY (iU Em))::(201,Ag)::(203,bY (l7 Bl))::(204,DJ)::G1
abbrev tG:Code:=part (aF f150) [1,1,1]
theorem xe:bq P GG:=aI PC (aI EH (aI aeq (aI Ml iq)))
theorem UU {n m:Nat} {z y:Nat->Nat}:aH T GG [] 60 [5,6] (before (aF f150) [1,1,0]) ⟨aQ 0 [.ak 1 n (aB z),.ak 1 m (aB y)],[],0⟩=
  let c2:Nat:=val n fun i=>numOf (aB z i);let c1:Nat:=val m fun i=>numOf (aB y i);some (ag.aj [eG n (aB z),n<2^62,nl c2<2^40,eG m (aB y),m<2^62,nl c1<2^40] (ag.leaf aq.normal ([mag c2,mag c1],[]))):=ah
theorem ajz {X Y:Nat}:aH T GG [23] 60 [5,6] [part (aF f150) [1,1,0,0,0]] ⟨aA [5,6] [.mag X,.mag Y],[],0⟩=
  some (ag.fork (decide ((↑(nl Y):Int)>2)) (ag.aj [nl X<2^40,nl Y<2^40] (ag.leaf aq.normal ([mag Y,mag (if Y=0 then 0 else X%Y)],[]))) (ag.leaf (aq.exit 0) ([mag X,mag Y],[]))):=ah
theorem aea {X Y:Nat}:aH T GG [35,39] 60 [13,14,4] (before tG [1,1,1,0]) ⟨aA [5,6] [.mag X,.mag Y],[],0⟩=
  let c2:AV:=int .u64 (↑Y:Int);let c1:Nat:=if Y=0 then 0 else X%Y;some (ag.fork ((↑(nl Y):Int)==0) (ag.leaf aq.ret ([tuple [],tuple [],mag X],[])) (ag.fork (decide ((↑(nl X):Int)>2)) (ag.aj [nl X<2^40,nl Y<2^40] (ag.aj [nl Y<=2,nl c1<=2] (ag.leaf aq.normal ([c2,int .u64 (↑c1:Int),tuple []],[])))) (ag.aj [nl X<=2,nl Y<=2] (ag.leaf aq.normal ([int .u64 (↑X:Int),c2,tuple []],[]))))):=ah
theorem Rj {x y:Nat}:aH T GG [54] 60 [13,14] [part tG [1,1,1,0,0,0]] ⟨aA [13,14] [.int .u64 x,.int .u64 y],[],0⟩=
  let c1:Int:=(↑y:Int);some (ag.fork (c1 !=(0:Int)) (ag.aj [c1≠(0:Int)] (ag.leaf aq.normal ([int .u64 c1,int .u64 ((↑x:Int).tmod c1)],[]))) (ag.leaf (aq.exit 2) ([int .u64 (↑x:Int),int .u64 c1],[]))):=ah
theorem Yh {x y:Nat}:cy T GG [] 60 f150 (behind tG [1,1,1,0]) ⟨aA [13,14] [.int .u64 x,.int .u64 y],[],0⟩=
  some (ag.aj [(0:Int)<=(↑x:Int)/\(↑x:Int)<2^64] (ag.leaf aq.ret [mag (↑x:Int).toNat])):=ah
theorem pH {Y:Nat} (h:nl Y<=2):Y<2^64:=dF.1 h
theorem Vx {n m:Nat} {z y:Nat->Nat} (hz:∀i,i<n->z i<2^32) (hy:∀i,i<m->y i<2^32) (hn:n<2^40) (hm':m<2^40) (K:Nat) (pre:aC):
  aS P 150 K [.ak 1 n (aB z),.ak 1 m (aB y)] pre (aJ (.mag (Nat.gcd (val n z) (val m y))) []):=by
 refine kG hT YA rfl aV rfl (fun _ c h0=>?_) K pre
 have hk0:∀{nx:Nat} k x,c.k0 k=some x->k<nx:=kX h0
 have hA:nl (val n z)<=n:=dF.2 (gq hz)
 have hB:nl (val m y)<=m:=dF.2 (gq hy)
 refine ax.hole [1,1,0] ah (aG.bE hT xe hm 60 [5,6] UU ah ?_)
 simp only[ag.all,az,kq]
 generalize val n z=A at*
 generalize val m y=B at*
 refine⟨⟨gV hz,aa,aa,gV hy,aa,aa⟩,fun s' hv=>cJ ?_⟩
 refine ax.iH (i:=0) (y:=part (aF f150) [1,1,0,0,0]) ah [5,6] 0 hk0 (fun p:Nat×Nat=>[.mag p.1,.mag p.2]) (fun _=>[]) (fun _=>rfl) (fun _=>trivial)
  (fun p=>Nat.gcd p.1 p.2=Nat.gcd A B/\nl p.1<2^40/\nl p.2<2^40) (fun p=>p.2) (A,B) hv ⟨rfl,by simp only;omega,by simp only;omega⟩ ?_
 rintro⟨X,Y⟩ ⟨hg,hX,hY⟩
 simp only at hg hX hY
 refine ax.bE hT xe hm 60 [5,6] ajz ah ?_
 simp only[ag.all,az,bk,bt]
 have hstep:∀{X Y:Nat},Y≠0->Nat.gcd Y (X%Y)=Nat.gcd X Y:=fun {X Y} _=>by rw[Nat.gcd_comm X Y,Nat.gcd_rec Y X,Nat.gcd_comm]
 refine⟨fun hb=>⟨⟨hX,hY⟩,fun s' hv=>?_⟩,fun hb s' hv=>fZ ?_⟩
 ·have hY0:Y≠0:=g9.1 aa
  have hlt:=Nat.mod_lt X (show 0<Y by omega)
  refine⟨(Y,X%Y),ec hv (by rw[if_neg hY0]) rfl,⟨by rw[<-hg];exact hstep hY0,hY,Nat.lt_of_le_of_lt (iI (Nat.le_of_lt hlt)) hY⟩,hlt⟩
 have hY2:nl Y<=2:=aa
 refine cJ (aG.kV (nx:=0) hv hk0 ah rfl trivial ?_)
 show aG P c f150.ntmps [tG] _ _
 refine ax.hole [1,1,1,0] ah (aG.bE hT xe hm 60 [13,14,4] aea ah ?_)
 simp only[ag.all,az,bk,bt,beq_iff_eq,beq_eq_false_iff_ne,ne_eq]
 have rest:∀{x y:Nat} {s':aK},x<2^64->y<2^64->Nat.gcd x y=Nat.gcd A B->bA [13,14,4] s'=some ([.int .u64 (x:Nat),.int .u64 (y:Nat)]++[.tuple []],[])->
   ax P c f150.ntmps (part tG [1,1,1,0]) s' (eo (fun s'=>aG P c f150.ntmps (behind tG [1,1,1,0]) s' (eo (fun s'=>aG P c f150.ntmps [] s' (Fin T f150 (.mag (Nat.gcd A B)))) (Fin T f150 (.mag (Nat.gcd A B)))))
    (eo (fun s'=>aG P c f150.ntmps [] s' (Fin T f150 (.mag (Nat.gcd A B)))) (Fin T f150 (.mag (Nat.gcd A B))))):=by
  intro x y s' hx hy hg hv
  have hv:=jG (ls:=[13,14]) (l:=[4]) (vs:=[.int .u64 (x:Nat),.int .u64 (y:Nat)]) hv rfl rfl
  refine ax.iH (i:=2) (y:=part tG [1,1,1,0,0,0]) ah [13,14] 0 hk0 (fun p:Nat×Nat=>[.int .u64 (p.1:Nat),.int .u64 (p.2:Nat)]) (fun _=>[]) (fun _=>rfl) (fun _=>trivial)
   (fun p=>Nat.gcd p.1 p.2=Nat.gcd A B/\p.1<2^64/\p.2<2^64) (fun p=>p.2) (x,y) hv ⟨hg,hx,hy⟩ ?_
  rintro⟨x,y⟩ ⟨hg,hx,hy⟩
  simp only at hg hx hy
  refine ax.bE hT xe hm 60 [13,14] Rj ah ?_
  simp only[ag.all,az,bne_iff_ne,ne_eq,bne_eq_false_iff_eq]
  refine⟨fun hb=>⟨hb,fun s' hv=>?_⟩,fun hb s' hv=>fZ ?_⟩
  ·have hy0:y≠0:=aa
   have hlt:=Nat.mod_lt x (show 0<y by omega)
   exact⟨(y,x%y),ec hv (by rw[<-Int.ofNat_tmod]) rfl,⟨by rw[<-hg];exact hstep hy0,hy,by simp only;omega⟩,hlt⟩
  ·have hy0:y=0:=aa
   subst hy0
   refine cJ ?_
   refine aG.mono (Q:=Fin T f150 (.mag (Nat.gcd A B))) (fun e s' h=>by cases e<;>exact h) ?_
   refine aG.zT hT xe hm 60 (nx:=0) hv hk0 rfl trivial Yh ah ah ⟨⟨aa,aa⟩,dX ?_⟩
   rw[bf,<-hg,Nat.gcd_zero_right]
 refine⟨fun hb s' hv=>fW (fW ?_),fun hb=>⟨fun h1=>⟨⟨hX,hY⟩,⟨aa,?_⟩,fun s' hv=>cJ (rest (pH hY2) ?_ ?_ (ec hv rfl rfl))⟩,fun h1=>⟨⟨aa,aa⟩,fun s' hv=>cJ (rest (pH aa) (pH hY2) hg (ec hv rfl rfl))⟩⟩⟩
 ·have hY0:Y=0:=by
   rcases Nat.eq_zero_or_pos Y with h1|h1
   ·exact h1
   ·have:=g9.2 (show Y≠0 by omega);omega
  refine gX (us:=[.mag X]) (.inr rfl) hv ah (dX ?_)
  rw[<-hg,hY0,Nat.gcd_zero_right]
 all_goals
  have hY0:Y≠0:=g9.1 aa
  have hlt:=Nat.mod_lt X (show 0<Y by omega)
  rw[if_neg hY0]
 ·exact Nat.le_trans (iI (Nat.le_of_lt hlt)) hY2
 ·exact Nat.lt_trans hlt (pH hY2)
 ·rw[<-hg];exact hstep hY0
def Gf (A n B m:Nat):dI:=aJ (.mag (Nat.gcd A B)) [n<2^40,m<2^40]
theorem Qz:aU P (bY (iU Gf)) 150:=
 cF (vX fun _ _ _ _ K hz hy need=>Vx hz hy need.1 need.2 K [])
theorem Z8:aW 217 f217:=aT func217
theorem adS {n:Nat} {z:Nat->Nat}:aH T [] [] 30 [0,3,4] (before (aF f217) [1,1,0,1]) ⟨aQ 0 [.ak 1 n (aB z)],[],0⟩=
  some (ag.leaf aq.normal ([ak 1 n fun a=>int .u32 (↑(z a):Int),int .u64 (0:Int),int .i64 (i64.wrap ((↑n:Int)-1))],[])):=ah
theorem agk {n k v:Nat} {z:Nat->Nat}:aH T [] [9] 30 [0,3,4] [part (aF f217) [1,1,0,1,0,0]] ⟨aA [0,3,4] [.ak 1 n (aB z),.int .u64 v,.int .i64 ((k:Int)-1)],[],0⟩=
  let c2:AV:=ak 1 n fun a=>int .u32 (↑(z a):Int);let c1:Int:=(↑k:Int)-1;some (ag.fork (decide (c1>=0)) (ag.aj [(0:Int)<=32,(0:Int)<=c1/\c1.toNat<n] (ag.leaf aq.normal ([c2,int .u64 (u64.wrap (↑(BitVec.ofInt u64.bits (u64.wrap ((↑v:Int)*2^min (Int.toNat (32:Int)) u64.bits))|||BitVec.ofInt u64.bits (u64.wrap (↑(z c1.toNat):Int))).toNat:Int)),int .i64 (i64.wrap (c1-1))],[]))) (ag.leaf (aq.exit 0) ([c2,int .u64 (↑v:Int),int .i64 c1],[]))):=ah
theorem ahn {n k v:Nat} {z:Nat->Nat}:cy T [] [] 30 f217 (behind (aF f217) [1,1,0,1]) ⟨aA [0,3,4] [.ak 1 n (aB z),.int .u64 v,.int .i64 ((k:Int)-1)],[],0⟩=
  some (ag.leaf aq.ret [int .u64 (↑v:Int)]):=ah
theorem ahR {n:Nat} {z:Nat->Nat} (hz:∀i,i<n->z i<2^32) (hn:n<=2) (K:Nat) (pre:aC):aS P 217 K [.ak 1 n (aB z)] pre (aJ (.int .u64 (val n z:Nat)) []):=by
 refine kG hT Z8 rfl aV rfl (fun _ c h0=>?_) K pre
 refine ax.hole [1,1,0,1] ah (aG.bE hT bB hm 30 [0,3,4] adS ah ?_)
 intro s' hv
 have hv64:val n z<2^64:=by
  have h1:=gq hz
  have h2:2^(32*n)<=2^(32*2):=Nat.pow_le_pow_right aa aa
  omega
 refine ax.jq (i:=0) (y:=part (aF f217) [1,1,0,1,0,0]) ah
  (fun p:Nat×Nat=>⟨aA [0,3,4] [.ak 1 n (aB z),.int .u64 (p.2:Nat),.int .i64 ((p.1:Nat)-1:Int)],[],0⟩)
  (fun p=>p.1<=n/\p.2*2^(32*p.1)+val p.1 z=val n z) (fun p=>p.1) (n,0)
  (dL [] hv h0 rfl ⟨aL,aL,⟨rfl,gQ (wrap_i64 aa aa)⟩,trivial⟩ trivial) ⟨by simp,by simp⟩ ?_
 rintro⟨k,v⟩ ⟨hk,hval⟩
 simp only at hk hval
 refine ax.bE hT bB hm 30 [0,3,4] agk ah ?_
 simp only[ag.all,az,bk,bt]
 refine⟨fun hb=>?_,fun hb s' hv=>?_⟩
 ·obtain⟨j,rfl⟩:∃j,k=j+1:=⟨k-1,aa⟩
  have e:(((j+1:Nat):Int)-1).toNat=j:=aa
  have hzj:=hz j aa
  have hv32:v<2^32:=by
   rcases Nat.lt_or_ge v (2^32)with h|h
   ·exact h
   ·have h1:2^32*2^(32*(j+1))<=v*2^(32*(j+1)):=Nat.mul_le_mul_right _ h
    have h2:2^32<=2^(32*(j+1)):=Nat.pow_le_pow_right aa aa
    have h3:2^32*2^32<=2^32*2^(32*(j+1)):=Nat.mul_le_mul_left _ h2
    omega
  rw[e]
  have hor:u64.wrap ((BitVec.ofInt u64.bits (u64.wrap ((v:Int)*2^min (Int.toNat 32) u64.bits))|||BitVec.ofInt u64.bits (u64.wrap (z j:Int))).toNat:Int)=
    ((v*4294967296+z j:Nat):Int):=by
   rw[wH,cr (x:=(z j:Int)) aa aa,cr (x:=(v:Int)*4294967296) aa aa]
   rw[show(v:Int)*4294967296=((v*2^32:Nat):Int) by omega,vO aa aa,r8 hzj]
  refine⟨⟨aa,aa,aa⟩,fun s' hv=>⟨(j,v*4294967296+z j),dL [] hv h0 rfl ⟨aL,⟨rfl,gQ hor⟩,⟨rfl,gQ (by rw[wrap_i64 aa aa];simp only;omega)⟩,trivial⟩ trivial,
   ⟨by simp only;omega,Qa hval⟩,by simp⟩⟩
 ·have hk0:k=0:=aa
  subst hk0
  have hval:v=val n z:=by simpa [val]using hval
  subst hval
  exact aG.weak ah (dL (vs:=[.ak 1 n (aB z),.int .u64 (val n z:Nat),.int .i64 (((0:Nat):Int)-1)]) (ps:=[]) (nx:=0) [] hv h0 rfl ⟨aL,aL,aL,trivial⟩ trivial)
   (aG.fin hT bB hm 30 ahn ah (bh.refl _))
theorem ajQ:aU P (bY (l7 Bl)) 217:=
 cF (u9 fun _ _ K hz need=>ahR hz need K [])
theorem ajN:aW 241 f241:=aT func241
theorem YK:aW 242 f242:=aT func242
theorem aaU {x y:Nat}:aH T [] [] 60 [0,1] (before (aF f241) [1,0]) ⟨aQ 0 [.int .u64 x,.int .u64 y],[],0⟩=
  some (ag.leaf aq.normal ([int .u64 (↑x:Int),int .u64 (↑y:Int)],[])):=ah
theorem aaC {x y:Nat}:aH T [] [6] 60 [0,1] [part (aF f241) [1,0,0,0]] ⟨aA [0,1] [.int .u64 x,.int .u64 y],[],0⟩=
  let c1:Int:=(↑y:Int);some (ag.fork (c1 !=(0:Int)) (ag.aj [c1≠(0:Int)] (ag.leaf aq.normal ([int .u64 c1,int .u64 ((↑x:Int).tmod c1)],[]))) (ag.leaf (aq.exit 0) ([int .u64 (↑x:Int),int .u64 c1],[]))):=ah
theorem Rs {x y:Nat}:cy T [] [] 60 f241 (behind (aF f241) [1,0]) ⟨aA [0,1] [.int .u64 x,.int .u64 y],[],0⟩=
  some (ag.leaf aq.ret [int .u64 (↑x:Int)]):=ah
theorem RB {s n l x:Nat} {z:Nat->Nat}:aH T [] [11] 60 [0,1,4] (before (aF f242) [1,1,1]) ⟨aQ 0 [.own 0 1 s n,.int .u64 x],[(0,⟨true,true,1,l,aB z⟩)],1⟩=
  let c4:AV:=int .u64 (↑x:Int);let c3:AV:=own 0 1 s n;let c2:Nat:=Int.toNat (0:Int);let c1:Nat×au:=(0,au.mk true true 1 l fun j=>if(j==c2+s)=true then int .u32 (u32.wrap (↑x:Int))else aB z j);some (ag.aj [(0:Int)<=0/\c2<n,c2+s<l] (ag.aj [(0:Int)<=32] (ag.fork ((↑x:Int).fdiv ((2:Int)^min (Int.toNat (32:Int)) u64.bits)==0) (ag.leaf aq.ret ([c3,c4,int .i64 (1:Int)],[c1])) (ag.leaf aq.normal ([c3,c4,int .i64 (0:Int)],[c1]))))):=ah
theorem agf {s n l x:Nat} {z:Nat->Nat}:aH T [] [] 60 [0,1,4] [part (aF f242) [1,1,1]] ⟨aA [0,1,4] [.own 0 1 s n,.int .u64 x,.int .i64 0],[(0,⟨true,true,1,l,aB z⟩)],1⟩=
  let c1:Nat:=Int.toNat (1:Int);some (ag.aj [(0:Int)<=32,(0:Int)<=1/\c1<n,c1+s<l] (ag.leaf aq.ret ([own 0 1 s n,int .u64 (↑x:Int),int .i64 (2:Int)],[(0,au.mk true true 1 l fun j=>if(j==c1+s)=true then int .u32 (u32.wrap ((↑x:Int).fdiv ((2:Int)^min (Int.toNat (32:Int)) u64.bits)))else aB z j)]))):=ah
theorem ajy {x y:Nat} (K:Nat) (pre:aC):aS P 241 K [.int .u64 x,.int .u64 y] pre (aJ (.int .u64 (Nat.gcd x y:Nat)) []):=by
 refine kG hT ajN rfl aV rfl (fun _ c h0=>?_) K pre
 have hk0:∀{nx:Nat} k x,c.k0 k=some x->k<nx:=kX h0
 refine ax.hole [1,0] ah (aG.bE hT bB hm 60 [0,1] aaU ah fun s' hv=>cJ ?_)
 refine ax.iH (i:=0) (y:=part (aF f241) [1,0,0,0]) ah [0,1] 0 hk0 (fun p:Nat×Nat=>[.int .u64 (p.1:Nat),.int .u64 (p.2:Nat)]) (fun _=>[]) (fun _=>rfl) (fun _=>trivial)
  (fun p=>Nat.gcd p.1 p.2=Nat.gcd x y) (fun p=>p.2) (x,y) hv rfl ?_
 rintro⟨m,n⟩ hg
 simp only at hg
 refine ax.bE hT bB hm 60 [0,1] aaC ah ?_
 simp only[ag.all,az,bne_iff_ne,ne_eq,bne_eq_false_iff_eq]
 refine⟨fun hb=>⟨hb,fun s' hv=>?_⟩,fun hb s' hv=>fZ (cJ ?_)⟩
 ·have hlt:=Nat.mod_lt m (show 0<n by omega)
  refine⟨(n,m%n),ec hv (by rw[<-Int.ofNat_tmod]) rfl,?_,hlt⟩
  rw[<-hg,Nat.gcd_comm m n,Nat.gcd_rec n m,Nat.gcd_comm]
 ·refine aG.zT hT bB hm 60 (nx:=0) hv hk0 rfl trivial Rs ah ah (bS ?_)
  have:n=0:=aa
  rw[<-hg,this,Nat.gcd_zero_right]
def Lz:Spec:=bY fun l=>match l with
 |[.int .u64 x,.int .u64 y]=>some (aJ (.int .u64 (Nat.gcd x.toNat y.toNat:Nat)) [0<=x,0<=y])
 |_=>none
theorem Sh:aU P Lz 241:=by
 refine cF fun K args r hk hs _=>?_
 split at hs
 ·rename_i x y
  simp only[ay]at hs
  subst hs
  intro need
  obtain⟨h1,h2⟩:0<=x/\0<=y:=need
  obtain⟨a,rfl⟩:=Int.eq_ofNat_of_zero_le h1
  obtain⟨b,rfl⟩:=Int.eq_ofNat_of_zero_le h2
  exact ajy K [] trivial
 ·simp at hs
def iG (z:Nat->Nat) (s x:Nat):Nat->Nat:=fun i=>if i=s then x%4294967296 else if i=s+1/\4294967296<=x then x/4294967296 else z i
def gb (x:Nat):Nat:=if x<4294967296 then 1 else 2
theorem ads {k s n l x:Nat} {z:Nat->Nat} {f:Nat->AV} (hx:x<2^64) (h1:gb x<=n) (hs:s+n<=l) (hf:∀i,i<l->f i=aB z i) (K:Nat):
  aS P 242 K [.own k 1 s n,.int .u64 x] [(k,⟨true,true,1,l,f⟩)] ⟨.int .i64 (gb x:Nat),[(k,⟨true,true,1,l,aB (iG z s x)⟩)],[]⟩:=by
 refine oO hT YK (args0:=[.own 0 1 s n,.int .u64 x]) (pre0:=[(0,⟨true,true,1,l,aB z⟩)]) (nx:=1) [(0,k)] aV (by simp[jE]) ⟨⟨rfl,cP rfl rfl rfl⟩,aL,trivial⟩ ⟨⟨k,_,rfl,by simp[look],gi rfl hf⟩,trivial⟩
  (fun a x h=>?_) (fun x o h=>?_) (fun _ c h0=>?_)
 ·simp only[bC,look]at h
  split at h
  ·simp only[ay]at h;subst h;exact⟨_,by simp[look];rfl⟩
  ·simp at h
 ·simp only[look]at h
  split at h
  ·rename_i he
   have:k=x:=by simpa using he
   subst this
   exact .inl ⟨_,by simp[look];rfl⟩
  ·simp at h
 have hk0:∀k x,c.k0 k=some x->k<1:=fun k x hk=>by
  have:=h0 k x hk
  simp only[bC,look]at this
  split at this
  ·rename_i h;simp at h;omega
  ·simp at this
 have key:∀{s':aK} {v:Int} {w:Nat->Nat},bA [0,1,4] s'=some ([.own 0 1 s n,.int .u64 x,.int .i64 v],[(0,⟨true,true,1,l,aB w⟩)])->v=(gb x:Nat)->w=iG z s x->
   ∃τ,we [(0,k)] K [(k,⟨true,true,1,l,f⟩)] τ/\(Ak T f242 τ [(k,⟨true,true,1,l,f⟩)] ⟨.int .i64 (gb x:Nat),[(k,⟨true,true,1,l,aB (iG z s x)⟩)],[]⟩ s'\/wM T f242 τ [(k,⟨true,true,1,l,f⟩)] ⟨.int .i64 (gb x:Nat),[(k,⟨true,true,1,l,aB (iG z s x)⟩)],[]⟩ s'):=by
  intro s' v w hv hv1 hw
  refine⟨bC [(k,0)],vg,.inr (vW (vs:=[.own 0 1 s n,.int .u64 x,.int .i64 v]) (us:=[.int .i64 v]) (ws:=[.int .i64 (gb x:Nat)]) (os:=[(0,⟨true,true,1,l,aB w⟩)]) (ps:=[(k,⟨true,true,1,l,aB (iG z s x)⟩)]) hv ah ⟨⟨rfl,gQ hv1⟩,trivial⟩ rfl (by simp[cM,lz,put]) ⟨⟨0,_,by simp[bC,look],rfl,gi rfl fun i hi=>by rw[hw]⟩,trivial⟩)⟩
 have h12:gb x=1\/gb x=2:=by unfold gb;split<;>simp
 have hset1:(fun j=>if j=s then AV.int .u32 (u32.wrap (x:Int))else aB z j)=aB (cE z s (x%4294967296)):=by
  funext j;exact iA (by rw[kE]) j
 refine ax.hole [1,1,1] ah (aG.bE hT bB hm 60 [0,1,4] RB ah ?_)
 simp only[ag.all,az,beq_iff_eq,beq_eq_false_iff_ne,ne_eq,mq,Int.toNat_zero,Nat.zero_add,hset1]
 refine⟨⟨aa,aa⟩,aa,fun hb s' hv=>?_,fun hb s' hv=>cJ ?_⟩
 ·have hlt:x<4294967296:=aa
  refine fW ⟨.inr rfl,key hv (by unfold gb;rw[if_pos hlt];rfl) ?_⟩
  funext i
  unfold cE iG
  by_cases h:i=s
  ·simp[h]
  ·simp[h];omega
 ·have hge:4294967296<=x:=aa
  have h2:gb x=2:=by unfold gb;rw[if_neg aa]
  refine ax.fS hT bB hm 60 (nx:=1) hv hk0 rfl ⟨⟨aa,fun _ _=>rfl⟩,trivial⟩ [0,1,4] agf ah ?_
  simp only[ag.all,az,beq_iff_eq,beq_eq_false_iff_ne,ne_eq,mq,show Int.toNat 1=1 from rfl]
  refine⟨⟨aa,aa,aa⟩,fun s' hv=>?_⟩
  have hset2:(fun j=>if j=1+s then AV.int .u32 (u32.wrap ((x:Int)/4294967296))else aB (cE z s (x%4294967296)) j)=aB (cE (cE z s (x%4294967296)) (1+s) (x/4294967296)):=by
   funext j;exact iA (by rw[wrap_u32 aa aa];omega) j
  rw[hset2]at hv
  refine fW ⟨.inr rfl,key hv (by rw[h2];rfl) ?_⟩
  funext i
  unfold cE iG
  by_cases h:i=s
  ·simp[h]
  ·by_cases h':i=1+s
   ·simp[h',hge,Nat.add_comm]
   ·simp[h,h'];omega
def Ez:Spec:=fun _ args pre=>match args,pre with
 |[.own k es s n,.int .u64 x],[(k',o)]=>if k==k'&&es==1&&o.row&&o.wr&&o.es==1 then some ⟨.int .i64 (gb x.toNat:Nat),[(k,⟨true,true,1,o.len,aB (iG (fun i=>numOf (o.f i)) s x.toNat)⟩)],[eG o.len o.f,0<=x/\x<2^64,gb x.toNat<=n,s+n<=o.len]⟩else none
 |_,_=>none
theorem Ta:aU P Ez 242:=by
 intro K args pre r hs
 unfold Ez at hs
 split at hs
 ·rename_i k es s n x k' o
  split at hs
  ·rename_i hc
   simp only[Bool.and_eq_true,beq_iff_eq]at hc
   obtain⟨⟨⟨⟨rfl,rfl⟩,h4⟩,h5⟩,h6⟩:=hc
   simp only[ay]at hs
   subst hs
   intro need
   obtain⟨h1,⟨h2,h2'⟩,h3,h7⟩:eG o.len o.f/\(0<=x/\x<2^64)/\gb x.toNat<=n/\s+n<=o.len:=need
   obtain⟨row,wr,es,len,f⟩:=o
   simp only at h1 h4 h5 h6 h7
   subst h4 h5 h6
   obtain⟨x,rfl⟩:=Int.eq_ofNat_of_zero_le h2
   refine ads (z:=fun i=>numOf (f i)) aa h3 h7 (fun i hi=>?_) K trivial
   obtain⟨z,g1,g2⟩:=h1 i hi
   simp[g2,numOf,aB]
  ·simp at hs
 ·simp at hs
def Ny:Spec:=bY fun l=>match l with
 |[.int .u64 x,.int .u64 y,.int .u64 z]=>some (aJ (.tuple [.int .u64 ((x+y+z)%18446744073709551616),.int .u64 ((x+y+z)/18446744073709551616)]) [0<=x,0<=y,0<=z/\z<=1])
 |_=>none
theorem Q2:aU P Ny 211:=by
 refine cF fun K args r hk hs _=>?_
 split at hs
 ·rename_i x y z
  simp only[ay]at hs
  subst hs
  intro need
  obtain⟨h1,h2,h3,h4⟩:0<=x/\0<=y/\0<=z/\z<=1:=need
  refine⟨fun k o h=>by simp[look]at h,fun c D D' β w vs hw0 hMw hrel hD hK hv=>.inr ?_⟩
  match vs,hv with
  |[a,b,d],hv=>
   obtain⟨ha,hb,hd,_⟩:=hv
   have ha:=(ha.bT).int
   have hb:=(hb.bT).int
   have hd:=(hd.bT).int
   subst ha hb hd
   refine⟨.tuple #[.int .u64 ((x+y+z)%18446744073709551616),.int .u64 ((x+y+z)/18446744073709551616)],?_,β,?_,cV.refl _ _ _,[_,_],rfl,.cD (.int .nil) rfl,.cD (.int .nil) rfl,trivial⟩
   ·rw[run_callFunc_extern (e:=add64Entry) func211 ah ah ah (by rfl)]
    rw[run_add64 x y z h1 h2 h3 h4]
    rfl
   ·exact hrel.mH hD
 ·simp at hs
theorem agP:aW 212 f212:=aT func212
theorem VN:aW 205 f205:=aT func205
def GS:aX:=[(241,Lz),(242,Ez)]
theorem adu {b:Bool} {n d:Nat}:bU T GS [13,35] 60 f212 (aF f212) ⟨aQ 0 [.bool b,.int .u64 n,.int .u64 d],[],0⟩=
  let c16:Int:=(↑n:Int);let c14:AV:=mag 0;let c13:AV:=int .u32 (0:Int);let c12:Nat:=Int.toNat (0:Int);let c7:Prop:=0<1;let c5:Nat:=Int.toNat (4:Int);let c10:Int:=(↑c5:Int);let c8:Nat:=numOf c13;let c4:Int:=(↑(c16.toNat.gcd (↑d:Int).toNat):Int);let c9:Int:=u64.wrap (c16.tdiv c4);let c2:Int:=u64.wrap ((↑d:Int).tdiv c4);let c1:Nat:=c9.toNat;let c3:Int:=(↑(gb c1):Int);let c15:Prop:=(0:Int)<=c3;let c11:Nat:=0+c3.toNat;let c6:Int:=i64.wrap (c3+(↑(gb c2.toNat):Int));some (ag.fork (c16==0) (ag.aj [c7] (ag.aj [c7] (ag.leaf aq.ret [agg [AV.bool false,c14,c14]]))) (ag.aj [(0:Int)<=c16,(0:Int)<=(↑d:Int)] (ag.aj [c4≠(0:Int),c4≠(0:Int)] (ag.aj [(0:Int)<=4/\(4:Int)<=4/\(4:Int)<=2^47/\(4:Int)*(↑(4:Nat):Int)<=2^47] (ag.aj [eG c5 fun x=>c13,(0:Int)<=c9/\c9<2^64,gb c1<=c5,(0:Nat)+c5<=c5] (ag.aj [(0:Int)<=0/\c15/\c3<=c3/\c3<=c10,c7] (ag.fork (decide (c2>1)) (ag.aj [c15/\c3<=c10/\c10<=c10/\c10<=c10,eG c5 (aB (iG (fun i=>c8) 0 c1)),(0:Int)<=c2/\c2<2^64,gb c2.toNat<=c10.toNat-c3.toNat,c11+(c10.toNat-c3.toNat)<=c5] (ag.aj [c15/\c3<=c6/\c6<=c6/\c6<=c10,c7] (ag.aj [c7,c7] (ag.aj [c7] (ag.leaf aq.ret [agg [AV.bool b,ak 1 (c3.toNat-c12) fun i=>int .u32 (↑(iG (fun i=>numOf (aB (iG (fun i=>c8) 0 c1) i)) c11 c2.toNat (i+((0:Nat)+c12))):Int),ak 1 (c6.toNat-c3.toNat) fun i=>int .u32 (↑(iG (fun i=>numOf (aB (iG (fun i=>c8) 0 c1) i)) c11 c2.toNat (i+c11)):Int)]]))))) (ag.aj [c7,c7] (ag.aj [c7] (ag.leaf aq.ret [agg [AV.bool b,ak 1 (c3.toNat-c12) fun i=>int .u32 (↑(iG (fun i=>c8) 0 c1 (i+((0:Nat)+c12))):Int),c14]])))))))))):=ah
theorem acS:bU T [] [] 60 f205 (aF f205) ⟨[],[],0⟩=
  some (ag.aj [(1:Nat)*1<=2^24] (ag.leaf aq.ret [ak 1 1 fun i=>nth [int .u32 (1:Int)] (int .u32 (0:Int)) (i+0)])):=ah
theorem ajr:bq P GS:=aI Sh (aI Ta bB)
theorem Gc {x:Nat} (h0:x≠0) (hx:x<2^64):nl x=gb x:=by
 have h1:=g9.2 h0
 have h2:nl x<=2:=dF.2 hx
 unfold gb
 split
 ·have:nl x<=1:=dF.2 aa
  omega
 ·have:¬nl x<=1:=by rw[dF];omega
  omega
theorem Ei {z:Nat->Nat} {s x i:Nat} (hx:x<2^64) (hi:i<gb x):iG z s x (i+s)=aD x i:=by
 unfold gb at hi
 unfold iG aD
 by_cases h:i=0
 ·subst h;simp
 ·have h1:i=1:=by split at hi<;>omega
  subst h1
  have h2:4294967296<=x:=by split at hi<;>omega
  rw[if_neg aa,if_pos ⟨aa,h2⟩]
  simp only[Nat.mul_one]
  exact(Nat.mod_eq_of_lt aa).symm
theorem Xz {z:Nat->Nat} {s x i:Nat} (hi:i<s):iG z s x i=z i:=by
 unfold iG
 rw[if_neg aa,if_neg aa]
theorem ai7 {z:Nat->Nat} {s x n:Nat} (hx:x<2^64) (hz:∀i,i<n->z i<2^32):∀i,i<n->iG z s x i<2^32:=fun i hi=>by
 unfold iG
 have:=hz i hi
 split
 ·omega
 ·split<;>omega
theorem YP {b:Bool} {n d:Nat} (hn:n<2^64) (hd:d<2^64) (hd0:d≠0) (K:Nat) (pre:aC):aS P 212 K [.bool b,.int .u64 n,.int .u64 d] pre (aJ (.rat (sQ b n d) (cW (sQ b n d))) []):=by
 refine bX hT ajr hm agP rfl aV rfl 60 adu (fun _=>?_) K pre
 obtain⟨g,hg⟩:∃g,g=Nat.gcd n d:=⟨_,rfl⟩
 simp only[bf,<-hg,show Int.toNat 4=4 from rfl,Int.toNat_zero,Nat.zero_add,Nat.add_zero,Nat.sub_zero]
 have hg0:0<g:=by rw[hg];exact Nat.gcd_pos_of_pos_right _ aa
 have hgn:g∣n:=by rw[hg];exact Nat.gcd_dvd_left _ _
 have hgd:g∣d:=by rw[hg];exact Nat.gcd_dvd_right _ _
 have hN:n/g<2^64:=Nat.lt_of_le_of_lt (Nat.div_le_self _ _) hn
 have hD:d/g<2^64:=Nat.lt_of_le_of_lt (Nat.div_le_self _ _) hd
 have hD0:0<d/g:=Nat.div_pos (Nat.le_of_dvd aa hgd) hg0
 have hN0:n≠0->0<n/g:=fun h=>Nat.div_pos (Nat.le_of_dvd aa hgn) hg0
 have e1:u64.wrap ((n:Int).tdiv (g:Int))=((n/g:Nat):Int):=by
  rw[<-Int.ofNat_tdiv,xE,Nat.mod_eq_of_lt hN]
 have e2:u64.wrap ((d:Int).tdiv (g:Int))=((d/g:Nat):Int):=by
  rw[<-Int.ofNat_tdiv,xE,Nat.mod_eq_of_lt hD]
 rw[e1,e2]
 clear e1 e2
 have f1:n/g=n/Nat.gcd n d:=by rw[hg]
 have f2:d/g=d/Nat.gcd n d:=by rw[hg]
 generalize n/g=N at*
 generalize d/g=D at*
 simp only[bf]
 have hnl:∀x,gb x=1\/gb x=2:=fun x=>by unfold gb;split<;>simp
 have l1:=hnl N
 have l2:=hnl D
 have w1:i64.wrap ((gb N:Int)+(gb D:Int))=((gb N+gb D:Nat):Int):=by rw[wrap_i64 aa aa];omega
 rw[w1]
 simp only[ag.all,az,beq_iff_eq,beq_eq_false_iff_ne,ne_eq,bk,bt,bf]
 have hsz:Sz (sQ b n d) (cW (sQ b n d)):=wW
 refine⟨fun hb=>⟨aa,aa,?_⟩,fun hb=>⟨⟨aa,aa⟩,⟨aa,aa⟩,aa,⟨?_,aa,aa,aa⟩,⟨aa,aa⟩,fun hc=>⟨⟨aa,?_,aa,aa,aa⟩,⟨aa,aa⟩,⟨aa,aa⟩,aa,?_⟩,fun hc=>⟨⟨aa,aa⟩,aa,?_⟩⟩⟩
 ·have hn0:n=0:=aa
  have:sQ b n d=0:=by rw[hn0,Gv]
  rw[this]
  exact mM
 ·exact fun i hi=>⟨0,aa,rfl⟩
 ·refine gV (ai7 hN fun i hi=>?_)
  simp[numOf]
 ·have hn0:n≠0:=aa
  have hN0:=hN0 hn0
  refine bh.trans (cL (vs:=[.bool b,.mag N,.mag D]) ⟨.refl _,mR (Gc aa hN) fun i hi=>?_,mR ?_ fun i hi=>?_,trivial⟩) (vK hn0 hd0 f1 ?_ hsz)
  ·show aB _ _=_
   unfold aB
   rw[Xz hi,<-Ei (s:=0) (z:=fun i=>numOf (AV.int .u32 0)) hN hi]
   rfl
  ·rw[Gc aa hD];omega
  ·show aB _ _=_
   unfold aB
   rw[Ei hD aa]
  ·rw[<-f2,if_neg aa]
 ·have hn0:n≠0:=aa
  have hN0:=hN0 hn0
  refine bh.trans (cL (vs:=[.bool b,.mag N,.mag 0]) ⟨.refl _,mR (Gc aa hN) fun i hi=>?_,.refl _,trivial⟩) (vK hn0 hd0 f1 ?_ hsz)
  ·show aB _ _=_
   unfold aB
   rw[<-Ei (s:=0) (z:=fun i=>numOf (AV.int .u32 0)) hN hi]
   rfl
  ·rw[<-f2,if_pos aa]
def Fj:Spec:=bY fun l=>match l with
 |[.bool b,.int .u64 n,.int .u64 d]=>some (aJ (.rat (sQ b n.toNat d.toNat) (cW (sQ b n.toNat d.toNat))) [0<=n/\n<2^64,0<d/\d<2^64])
 |_=>none
theorem PN:aU P Fj 212:=by
 refine cF fun K args r hk hs _=>?_
 split at hs
 ·rename_i b n d
  simp only[ay]at hs
  subst hs
  intro need
  obtain⟨⟨h1,h2⟩,h3,h4⟩:(0<=n/\n<2^64)/\0<d/\d<2^64:=need
  obtain⟨n,rfl⟩:=Int.eq_ofNat_of_zero_le h1
  obtain⟨d,rfl⟩:=Int.eq_ofNat_of_zero_le (Int.le_of_lt h3)
  exact YP aa aa aa K [] trivial
 ·simp at hs
theorem Rg (K:Nat) (pre:aC):aS P 205 K [] pre (aJ (.mag 1) []):=by
 refine bX (T:=T) hT bB hm VN rfl aV rfl 60 acS (fun _=>?_) K pre
 refine⟨by simp[az],mR (by decide) fun i hi=>?_⟩
 have:i=0:=aa
 subst this
 rfl
def Fs:Spec:=bY fun l=>match l with
 |[]=>some (aJ (.mag 1) [])
 |_=>none
theorem QG:aU P Fs 205:=by
 refine cF fun K args r hk hs _=>?_
 split at hs
 ·simp only[ay]at hs
  subst hs
  exact Rg K []
 ·simp at hs
theorem Ym:aW 155 f155:=aT func155
theorem ahm:aW 168 f168:=aT func168
theorem Vw:aW 213 f213:=aT func213
theorem adL:aW 63 f63:=aT func63
theorem ahq:aW 79 f79:=aT func79
theorem XB:aW 197 f197:=aT func197
theorem acL:aW 245 f245:=aT func245
def GR:aX:=(149,bY (l7 G3))::(217,bY (l7 Bl))::(212,Fj)::(150,bY (iU Gf))::(202,bY (iU Em))::(214,bY (iU DH))::(205,Fs)::(142,C8)::(201,Ag)::(204,DJ)::[]
theorem nI:bq P GR:=aI NI (aI ajQ (aI PN (aI Qz (aI PC (aI Mr (aI QG (aI Pr (aI EH (aI Ml bB)))))))))
theorem ail {q:Rat} {n:Nat}:bU T GR [6] 60 f155 (aF f155) ⟨aQ 0 [.rat q n],[],0⟩=
  let c1:Nat:=if q.den=1 then 0 else q.den;some (ag.aj [(0:Nat)<1] (ag.fork ((↑(nl c1):Int)==0) (ag.leaf aq.ret [mag 1]) (ag.aj [(0:Nat)<1] (ag.leaf aq.ret [mag c1])))):=ah
theorem ac1 {q:Rat} {n:Nat}:bU T GR [9,14,18] 60 f168 (aF f168) ⟨aQ 0 [.rat q n],[],0⟩=
  let c11:AV:=int .u64 (0:Int);let c8:Nat:=q.num.natAbs;let c4:Prop:=0<1;let c2:Nat:=if q.den=1 then 0 else q.den;let c10:AV:=int .u64 (↑c8:Int);let c9:Int:=(↑(nl c2):Int);let c6:Int:=u64.wrap (↑(aD c2 (Int.toNat (0:Int))):Int);let c5:ag (List AV):=ag.leaf aq.ret [c11,c11,AV.bool false];let c3:Int:=(↑(nl c8):Int);let c7:Bool:=decide (c3>1);let c1:ag (List AV):=ag.aj [c4] (ag.fork (c9==1) (ag.aj [c4,(0:Int)<=0/\Int.toNat (0:Int)<nl c2] (ag.aj [c4,nl c8<=2] (ag.leaf aq.ret [c10,int .u64 c6,AV.bool (c6 !=(0:Int))]))) (ag.aj [c4,nl c8<=2] (ag.leaf aq.ret [c10,int .u64 (1:Int),AV.bool true])));some (ag.fork c7 (ag.aj [c4,c7=true] (ag.fork true c5 c1)) (ag.aj [c4,c7=false,c4] (ag.fork (bif false then true else decide (c9>1)) c5 c1))):=ah
theorem TB {q r:Rat} {n m:Nat}:bU T GR [10,17] 60 f63 (aF f63) ⟨aQ 0 [.rat q n,.rat r m],[],0⟩=
  let c9:Nat:=q.num.natAbs;let c8:Nat:=r.num.natAbs;let c5:Nat:=2^40;let c4:Bool:=decide (q<0)==decide (r<0);let c3:Nat:=if q.den=1 then 0 else q.den;let c2:Nat:=if r.den=1 then 0 else r.den;let c1:Prop:=0<1;let c10:List Prop:=[c1,c1,nl c3<c5,nl c2<c5];let c7:ag (List AV):=ag.leaf aq.ret [AV.bool (bif true then decide (c3=c2)else false)];let c6:Bool:=bif true then decide (c9=c8)else false;some (ag.fork c4 (ag.fork c6 (ag.aj (c1::c1::(c4=true)::c1::c1::(nl c9<c5)::(nl c8<c5)::(c6=true)::c10) c7) (ag.aj [c1,c1,c4=true,c1,c1,nl c9<c5,nl c8<c5,c6=false] (ag.leaf aq.ret [AV.bool false]))) (ag.fork false (ag.aj (c1::c1::(c4=false)::(false=true)::c10) c7) (ag.aj [c1,c1,c4=false,false=false] (ag.leaf aq.ret [AV.bool false])))):=ah
theorem acT {q:Rat} {n:Nat}:bU T GR [3,8] 60 f79 (aF f79) ⟨aQ 0 [.rat q n],[],0⟩=
  some (ag.aj [(0:Nat)<1,nl q.num.natAbs<2^40] (ag.fork ((↑(bN q.num.natAbs):Int)==0) (ag.leaf aq.ret [int .i64 (0:Int)]) (ag.aj [(0:Nat)<1] (ag.fork (decide (q<0)) (ag.leaf aq.ret [int .i64 (-1:Int)]) (ag.leaf aq.ret [int .i64 (1:Int)]))))):=ah
theorem agQ {q:Rat} {n:Nat}:bU T GR [] 60 f197 (aF f197) ⟨aQ 0 [.rat q n],[],0⟩=
  let c2:Nat:=if q.den=1 then 0 else q.den;let c1:Prop:=0<1;some (ag.aj [c1,c1,nl q.num.natAbs<2^40,c1,nl c2<2^40,c1] (ag.aj [c1] (ag.leaf aq.ret [agg [AV.bool (decide (q<0)),mag q.num.natAbs,mag c2]]))):=ah
theorem VJ {n:Int}:bU T GR [4] 60 f245 (aF f245) ⟨aQ 0 [.int .i64 n],[],0⟩=
  let c1:Int:=i64.wrap ((0:Int)-n);let c2:Int:=u64.wrap (if n<c1 then c1 else n);some (ag.fork (n==(-9223372036854775808:Int)) (ag.aj [(0:Int)<=9223372036854775808/\(9223372036854775808:Int)<2^64] (ag.leaf aq.ret [mag 9223372036854775808])) (ag.aj [(0:Int)<=c2/\c2<2^64] (ag.leaf aq.ret [mag c2.toNat]))):=ah
abbrev kQ:List Nat:=[0,1,2,6]
abbrev ru (b:Bool) (N D:Nat):List AV:=[.bool b,.mag N,.mag D,.ptr 0 0 3 0 []]
abbrev tq:aC:=[(0,⟨false,true,3,1,fun _=>.rat 0 1⟩)]
theorem afQ {b:Bool} {N D:Nat}:aH T GR [11,15] 60 kQ ((before (aF f213) [1,1,1,1]).take 2) ⟨aQ 0 [.bool b,.mag N,.mag D],[],0⟩=
  let c6:Nat:=2^40;let c5:AV:=rat 0 1;let c4:Bool:=(↑(bN N):Int)==0;let c3:List AV:=[AV.bool b,mag N,mag D,ptr 0 0 3 0 []];let c2:ag (List AV×aC):=ag.leaf aq.normal (c3,[(0,au.mk false true 3 1 fun x=>c5)]);let c1:ag (List AV×aC):=ag.aj [(0:Nat)<1] (ag.leaf aq.ret (c3,[(0,au.mk false true 3 1 fun j=>if(j==0)=true then bp (agg c5.kids)else c5)]));some (ag.fork c4 (ag.aj [nl N<c6,c4=true] (ag.fork true c1 c2)) (ag.aj [nl N<c6,c4=false,nl D<c6] (ag.fork (bif false then true else(↑(bN D):Int)==0) c1 c2))):=ah
theorem PJ {b:Bool} {N D:Nat}:kH T f213 .ret ⟨aA kQ (ru b N D),[(0,⟨false,true,3,1,fun j=>if j=0 then bp (.agg (AV.kids (.rat 0 1)))else .rat 0 1⟩)],1⟩=
  some (ag.aj [(0:Nat)<1] (ag.leaf aq.ret [agg [AV.bool false,mag 0,mag 0]])):=ah
theorem Sk {b:Bool} {N D:Nat} {q:Rat} {k:Nat}:kH T f213 .ret ⟨aA kQ (ru b N D),[(0,⟨false,true,3,1,fun j=>if j=0 then bp (.rat q k)else .rat 0 1⟩)],1⟩=
  some (ag.aj [(0:Nat)<1] (ag.leaf aq.ret [rat q k])):=ah
theorem aeD {b:Bool} {N D:Nat}:aH T GR [20,24] 60 kQ (((before (aF f213) [1,1,1,1]).drop 2).take 1) ⟨aA kQ (ru b N D),tq,1⟩=
  let c6:AV:=rat 0 1;let c5:Rat:=sQ b (↑N:Int).toNat (↑D:Int).toNat;let c4:Bool:=decide ((↑(nl N):Int)<=2);let c3:List AV:=[AV.bool b,mag N,mag D,ptr 0 0 3 0 []];let c2:ag (List AV×aC):=ag.leaf aq.normal (c3,[(0,au.mk false true 3 1 fun x=>c6)]);let c1:ag (List AV×aC):=ag.aj [nl N<=2,nl D<=2,(0:Int)<=(↑N:Int)/\(↑N:Int)<2^64,(0:Int)<(↑D:Int)/\(↑D:Int)<2^64,(0:Nat)<1] (ag.leaf aq.ret (c3,[(0,au.mk false true 3 1 fun j=>if(j==0)=true then bp (rat c5 (cW c5))else c6)]));some (ag.fork c4 (ag.aj [c4=true] (ag.fork (bif true then decide ((↑(nl D):Int)<=2)else false) c1 c2)) (ag.aj [c4=false] (ag.fork false c1 c2))):=ah
theorem ab2 {b:Bool} {N D:Nat}:aH T GR [36] 60 kQ ((before (aF f213) [1,1,1,1]).drop (2+1)) ⟨aA kQ (ru b N D),tq,1⟩=
  let c5:Int:=(↑(bN (N.gcd D)):Int);let c3:AV:=ptr 0 0 3 0 [];let c2:Nat×au:=(0,au.mk false true 3 1 fun x=>rat 0 1);let c1:Nat:=2^40;let c4:Prop:=nl (N.gcd D)<c1;some (ag.aj [nl N<c1,nl D<c1] (ag.aj [c4] (ag.fork (decide (c5>1)) (ag.aj [nl N<c1,c4] (ag.aj [nl D<c1,c4] (ag.leaf aq.normal ([AV.bool b,mag (N/N.gcd D),mag (D/N.gcd D),c3],[c2])))) (ag.leaf aq.normal ([AV.bool b,mag N,mag D,c3],[c2]))))):=ah
theorem Ru {b:Bool} {N D:Nat}:cy T GR [58,63] 60 f213 [part (aF f213) [1,1,1,1]] ⟨aA kQ (ru b N D),tq,1⟩=
  let c6:Nat:=D+0;let c5:List Prop:=[(0:Nat)<1];let c4:Nat:=2^40;let c3:Bool:=(↑(nl c6):Int)==1;let c2:ag (List AV):=ag.aj c5 (ag.aj c5 (ag.leaf aq.ret [agg [AV.bool b,mag (N+0),nil]]));let c1:ag (List AV):=ag.aj c5 (ag.aj c5 (ag.leaf aq.ret [agg [AV.bool b,mag (N+0),mag c6]]));some (ag.aj [nl N<c4,(0:Nat)<c4,nl D<c4,(0:Nat)<c4] (ag.fork c3 (ag.aj [c3=true,(0:Int)<=0/\Int.toNat (0:Int)<nl c6] (ag.fork (bif true then(↑(aD c6 (Int.toNat (0:Int))):Int)==1 else false) c2 c1)) (ag.aj [c3=false] (ag.fork false c2 c1)))):=ah
theorem jQ {a b v:Bool} (h:(bif true then a else b)=v):a=v:=h
theorem Ey {N:Nat}:bN N=0↔N=0:=by unfold bN;split<;>simp_all
theorem X5 {N:Nat}:bN N<=1↔N<=1:=by rw[jr];omega
theorem j5 {N:Nat}:nl N=0↔N=0:=by
 constructor
 ·intro h
  rcases Nat.eq_zero_or_pos N with h1|h1
  ·exact h1
  ·have:=g9.2 (show N≠0 by omega);omega
 ·intro h;subst h;rfl
theorem Yc {b:Bool} {n:Nat}:sQ b n 0=0:=by unfold sQ;simp
theorem KF {b:Bool} {x:Nat}:bh (.agg [.bool b,.mag x,.nil]) (.agg [.bool b,.mag x,.mag 0]):=cL ⟨.refl _,.refl _,lO,trivial⟩
theorem ae0 {b:Bool} {N D:Nat} (hN:nl N<2^40) (hD:nl D<2^40) (K:Nat) (pre:aC):aS P 213 K [.bool b,.mag N,.mag D] pre (aJ (.rat (sQ b N D) (cW (sQ b N D))) []):=by
 refine fX hT Vw rfl aV rfl (fun _ c h0=>?_) K pre
 have hO:∀{v:AV},keys v=[]->iF 1 [(0,(⟨false,true,3,1,fun j=>if j=0 then v else .rat 0 1⟩:au))]:=fun h=>⟨⟨aa,fun i _=>by show keys (if i=0 then _ else _)=[];split;exact h;rfl⟩,trivial⟩
 have hO':iF 1 tq:=⟨⟨aa,fun _ _=>rfl⟩,trivial⟩
 have hz:sQ b N D=0->bh (.agg [.bool false,.mag 0,.mag 0]) (.rat (sQ b N D) (cW (sQ b N D))):=fun h=>by
  rw[h];exact mM
 refine ax.hole [1,1,1,1] ah (aG.chunk 2 (aG.bE hT nI hm 60 kQ afQ ah ?_))
 simp only[ag.all,az,beq_iff_eq,beq_eq_false_iff_ne,ne_eq]
 -- behind the first questions
 have rest:∀{s':aK},N≠0->D≠0->bA kQ s'=some (ru b N D,tq)->
   aG P c f213.ntmps ((before (aF f213) [1,1,1,1]).drop 2) s' (eo (fun s'=>ax P c f213.ntmps (part (aF f213) [1,1,1,1]) s' (eo (fun s'=>aG P c f213.ntmps (behind (aF f213) [1,1,1,1]) s' (dH c (Fin T f213 (.rat (sQ b N D) (cW (sQ b N D)))))) (dH c (Fin T f213 (.rat (sQ b N D) (cW (sQ b N D)))))))
    (dH c (Fin T f213 (.rat (sQ b N D) (cW (sQ b N D)))))):=by
  intro s' hN0 hD0 hv
  have last:∀{s':aK} {X Y:Nat},nl X<2^40->nl Y<2^40->X=N/Nat.gcd N D->Y=D/Nat.gcd N D->bA kQ s'=some (ru b X Y,tq)->
    ax P c f213.ntmps (part (aF f213) [1,1,1,1]) s' (eo (fun s'=>aG P c f213.ntmps (behind (aF f213) [1,1,1,1]) s' (dH c (Fin T f213 (.rat (sQ b N D) (cW (sQ b N D)))))) (dH c (Fin T f213 (.rat (sQ b N D) (cW (sQ b N D)))))):=by
   intro s' X Y hX hY eX eY hv
   refine ax.mono (Q:=eo (fun s'=>aG P c f213.ntmps [] s' (dH c (Fin T f213 (.rat (sQ b N D) (cW (sQ b N D)))))) (dH c (Fin T f213 (.rat (sQ b N D) (cW (sQ b N D)))))) ?_ fun e s' h=>by cases e<;>exact h
   refine aG.kU (l:=[part (aF f213) [1,1,1,1]]) hT nI hm 60 hv (h0 _) rfl hO' Ru ah rfl ?_
   simp only[ag.all,az,beq_iff_eq,beq_eq_false_iff_ne,ne_eq,Nat.add_zero,Int.toNat_zero]
   have hY0:Y≠0:=by rw[eY];exact Nat.pos_iff_ne_zero.1 (Nat.div_pos (Nat.le_of_dvd aa (Nat.gcd_dvd_right _ _)) (Nat.gcd_pos_of_pos_left _ aa))
   have h1:Y≠1->bh (.agg [.bool b,.mag X,.mag Y]) (.rat (sQ b N D) (cW (sQ b N D))):=fun h=>vK hN0 hD0 eX (by rw[<-eY,if_neg h]) wW
   have h2:Y=1->bh (.agg [.bool b,.mag X,.nil]) (.rat (sQ b N D) (cW (sQ b N D))):=fun h=>KF.trans (vK hN0 hD0 eX (by rw[<-eY,if_pos h]) wW)
   have hl:nl Y=1->aD Y 0=Y:=fun h=>by
    have:=gI (N:=Y)
    rw[h,val,val]at this
    simpa using this
   refine⟨⟨hX,aa,hY,aa⟩,fun hb=>⟨⟨hb,aa,aa⟩,fun hc=>⟨aa,aa,h2 ?_⟩,fun hc=>⟨aa,aa,h1 ?_⟩⟩,fun hb=>⟨hb,fun h=>by simp at h,fun _=>⟨aa,aa,h1 ?_⟩⟩⟩
   ·have:=jQ hc
    rw[hl aa]at this
    have:=eq_of_beq this
    omega
   ·have:=jQ hc
    rw[hl aa]at this
    intro h
    rw[h]at this
    simp at this
   ·intro h
    rw[h]at hb
    exact hb (by decide)
  refine aG.chunk 1 (aG.fS hT nI hm 60 hv (h0 _) rfl hO' kQ aeD ah rfl ?_)
  simp only[ag.all,az,bk,bt,bf,beq_iff_eq]
  have long:∀{s':aK},bA kQ s'=some (ru b N D,tq)->aG P c f213.ntmps (((before (aF f213) [1,1,1,1]).drop 2).drop 1) s' (eo (fun s'=>ax P c f213.ntmps (part (aF f213) [1,1,1,1]) s' (eo (fun s'=>aG P c f213.ntmps (behind (aF f213) [1,1,1,1]) s' (dH c (Fin T f213 (.rat (sQ b N D) (cW (sQ b N D)))))) (dH c (Fin T f213 (.rat (sQ b N D) (cW (sQ b N D)))))))
    (dH c (Fin T f213 (.rat (sQ b N D) (cW (sQ b N D)))))):=by
   intro s' hv
   rw[List.drop_drop]
   refine aG.fS hT nI hm 60 hv (h0 _) rfl hO' kQ ab2 ah rfl ?_
   simp only[ag.all,az,bk,bt]
   have hg:nl (Nat.gcd N D)<2^40:=Nat.lt_of_le_of_lt (iI (Nat.gcd_le_left _ aa)) hN
   have hg0:0<Nat.gcd N D:=Nat.gcd_pos_of_pos_left _ aa
   refine⟨⟨hN,hD⟩,hg,fun hb=>⟨⟨hN,hg⟩,⟨hD,hg⟩,fun s' hv=>last (Nat.lt_of_le_of_lt (iI (Nat.div_le_self _ _)) hN) (Nat.lt_of_le_of_lt (iI (Nat.div_le_self _ _)) hD) rfl rfl hv⟩,fun hb s' hv=>?_⟩
   have hg1:Nat.gcd N D=1:=by
    have:bN (Nat.gcd N D)<=1:=aa
    have:=X5.1 this
    omega
   exact last hN hD (by rw[hg1,Nat.div_one]) (by rw[hg1,Nat.div_one]) hv
  refine⟨fun hb=>⟨hb,fun hc=>⟨?_,fun s' hv=>?_⟩,fun hc s' hv=>cJ (long hv)⟩,fun hb=>⟨hb,fun h=>by simp at h,fun _ s' hv=>cJ (long hv)⟩⟩
  ·have h2:nl D<=2:=by have:=of_decide_eq_true (jQ hc);omega
   have:=pH (show nl N<=2 by omega)
   have:=pH h2
   exact⟨aa,h2,aa,aa,aa⟩
  ·refine fW (fW (xC Sk hv (h0 _) rfl (hO rfl) ⟨by simp[az],?_⟩))
   exact .refl _
 refine⟨fun hb=>⟨⟨hN,hb⟩,fun _=>⟨aa,fun s' hv=>fW (fW (xC PJ hv (h0 _) rfl (hO rfl) ⟨by simp[az],hz ?_⟩))⟩,fun h=>by simp at h⟩,fun hb=>⟨⟨hN,hb,hD⟩,fun hc=>⟨aa,fun s' hv=>fW (fW (xC PJ hv (h0 _) rfl (hO rfl) ⟨by simp[az],hz ?_⟩))⟩,fun hc s' hv=>cJ (rest ?_ ?_ hv)⟩⟩
 ·rw[Ey.1 (show bN N=0 by omega),Gv]
 ·have:=eq_of_beq (jb hc)
  rw[Ey.1 (show bN D=0 by omega),Yc]
 ·intro h;rw[h]at hb;exact hb (by decide)
 ·intro h
  have:=jb hc
  rw[h]at this
  simp[bN]at this
theorem UX {q:Rat} {n:Nat} (K:Nat) (pre:aC):aS P 155 K [.rat q n] pre (aJ (.mag q.den) []):=by
 refine bX hT nI hm Ym rfl aV rfl 60 ail (fun _=>?_) K pre
 simp only[ag.all,az,beq_iff_eq,beq_eq_false_iff_ne,ne_eq]
 refine⟨aa,fun hb=>dX ?_,fun hb=>⟨aa,dX ?_⟩⟩
 ·have h0:=q.den_nz
  have:(if q.den=1 then 0 else q.den)=0:=j5.1 aa
  split at this
  ·rename_i h;rw[h]
  ·omega
 ·split
  ·rename_i h;rw[if_pos h]at hb;exact absurd (by decide) hb
  ·rfl
def G9:Spec:=bY fun l=>match l with
 |[.rat q _]=>some (aJ (.mag q.den) [])
 |_=>none
theorem JR:aU P G9 155:=by
 refine cF fun K args r hk hs _=>?_
 split at hs
 ·simp only[ay]at hs
  subst hs
  exact UX K []
 ·simp at hs
def eJ (q:Rat):Bool:=decide (q.num.natAbs<4294967296)&&decide (q.den<4294967296)
abbrev uM (q:Rat):AV:=.tuple [.int .u64 (if eJ q then q.num.natAbs else 0:Nat),.int .u64 (if eJ q then q.den else 0:Nat),.bool (eJ q)]
theorem uR {N:Nat}:nl N<=1↔N<4294967296:=dF
theorem acw {q:Rat} {n:Nat} (K:Nat) (pre:aC):aS P 168 K [.rat q n] pre (aJ (uM q) []):=by
 refine bX hT nI hm ahm rfl aV rfl 60 ac1 (fun _=>?_) K pre
 simp only[ag.all,az,beq_iff_eq,beq_eq_false_iff_ne,ne_eq,bk,bt,Int.toNat_zero]
 have hd:=q.den_nz
 have no:¬(q.num.natAbs<4294967296/\q.den<4294967296)->fK [.int .u64 0,.int .u64 0,.bool false] (uM q):=by
  intro h
  have:eJ q=false:=by
   unfold eJ
   by_cases h1:q.num.natAbs<4294967296
   ·simp[h1];omega
   ·simp[h1]
  unfold uM
  rw[this]
  exact⟨.refl _,.refl _,.refl _,trivial⟩
 have yes:∀{x:Int} {v:Bool},q.num.natAbs<4294967296/\q.den<4294967296->x=(q.den:Nat)->v=true->fK [.int .u64 (q.num.natAbs:Nat),.int .u64 x,.bool v] (uM q):=by
  intro x v h hx hv
  have:eJ q=true:=by unfold eJ;simp[h]
  unfold uM
  rw[this]
  exact⟨.refl _,bS hx,fF hv,trivial⟩
 have hden:∀{m:Nat},nl (if q.den=1 then 0 else q.den)<=m↔(q.den=1\/nl q.den<=m):=by
  intro m
  by_cases h:q.den=1
  ·simp[h];simp[nl]
  ·simp[h]
 refine⟨fun hb=>⟨⟨aa,hb⟩,fun _=>no ?_,fun h=>by simp at h⟩,fun hb=>⟨⟨aa,hb,aa⟩,fun hc=>no ?_,fun hc=>⟨aa,fun h1=>⟨⟨aa,aa,aa⟩,⟨aa,aa⟩,?_⟩,fun h1=>⟨⟨aa,aa⟩,yes ?_ ?_ rfl⟩⟩⟩⟩
 ·have:=uR (N:=q.num.natAbs);omega
 ·have h2:=of_decide_eq_true (jb hc)
  have h3:=hden (m:=1)
  have h4:=uR (N:=q.den)
  omega
 ·have h2:=of_decide_eq_false (jb hc)
  have hn1:q.den≠1:=fun h=>by rw[if_pos h]at h1;simp[nl]at h1
  rw[if_neg hn1]at h1 h2 ⊢
  have h4:=(uR (N:=q.den)).1 aa
  have h5:=(uR (N:=q.num.natAbs)).1 aa
  have hl:aD q.den 0=q.den:=by
   have:=gI (N:=q.den)
   rw[show nl q.den=1 by omega,val,val]at this
   simpa using this
  rw[hl,cr aa aa]
  exact yes ⟨h5,h4⟩ rfl (by simp;omega)
 ·have h2:=of_decide_eq_false (jb hc)
  have h3:=hden (m:=1)
  have h3':=hden (m:=0)
  have h4:=uR (N:=q.den)
  have h5:=uR (N:=q.num.natAbs)
  have h6:=g9 (N:=q.den)
  omega
 ·have h2:=of_decide_eq_false (jb hc)
  have h3:=hden (m:=0)
  have h6:=g9 (N:=q.den)
  omega
def HW:Spec:=bY fun l=>match l with
 |[.rat q _]=>some (aJ (uM q) [])
 |_=>none
theorem Q8:aU P HW 168:=by
 refine cF fun K args r hk hs _=>?_
 split at hs
 ·simp only[ay]at hs
  subst hs
  exact acw K []
 ·simp at hs
theorem qA {q r:Rat}:q=r↔(decide (q<0)=decide (r<0))/\q.num.natAbs=r.num.natAbs/\(if q.den=1 then 0 else q.den)=(if r.den=1 then 0 else r.den):=by
 constructor
 ·intro h;subst h;exact⟨rfl,rfl,rfl⟩
 ·rintro⟨h1,h2,h3⟩
  have hd:q.den=r.den:=by
   have:=q.den_nz
   have:=r.den_nz
   split at h3<;>split at h3<;>omega
  rw[<-lU q,<-lU r,h1,h2,hd]
theorem K5 {q r:Rat} {n m:Nat} (hn:n<2^44) (hm':m<2^44) (K:Nat) (pre:aC):aS P 63 K [.rat q n,.rat r m] pre (aJ (.bool (decide (q=r))) []):=by
 refine kD fun⟨hs1,hs2,_⟩=>?_
 obtain⟨a1,a2,a3⟩:=Sz.jJ hs1 hn
 obtain⟨b1,b2,b3⟩:=Sz.jJ hs2 hm'
 refine bX hT nI hm adL rfl aV rfl 60 TB (fun _=>?_) K pre
 simp only[ag.all,az]
 refine⟨fun hb=>⟨fun hc=>⟨⟨aa,aa,hb,aa,aa,a1,b1,hc,aa,aa,a3,b3⟩,fF ?_⟩,fun hc=>⟨⟨aa,aa,hb,aa,aa,a1,b1,hc⟩,fF ?_⟩⟩,fun hb=>⟨fun h=>by simp at h,fun _=>⟨⟨aa,aa,hb,trivial⟩,fF ?_⟩⟩⟩
 ·have h1:=eq_of_beq hb
  have h2:=of_decide_eq_true (jQ hc)
  rw[cond_true]
  exact decide_eq_decide.2 ⟨fun h=>qA.2 ⟨h1,h2,h⟩,fun h=>(qA.1 h).2.2⟩
 ·have h2:=of_decide_eq_false (jQ hc)
  exact(decide_eq_false fun h=>h2 (qA.1 h).2.1).symm
 ·refine(decide_eq_false fun h=>?_).symm
  rw[(qA.1 h).1]at hb
  simp at hb
theorem pW {q:Rat}:q.num.natAbs=0↔q=0:=by rw[Int.natAbs_eq_zero,Rat.num_eq_zero]
theorem MX {q:Rat} (h:q≠0) (h2:¬q<0):0<q:=by
 rw[Rat.lt_iff]
 have h3:¬q.num<0:=fun h=>h2 (jv.2 h)
 have h4:q.num≠0:=fun h5=>h (Rat.num_eq_zero.1 h5)
 simp;omega
theorem E5 {q:Rat} {n:Nat} (hn:n<2^44) (K:Nat) (pre:aC):aS P 79 K [.rat q n] pre (aJ (.int .i64 (fQ q)) []):=by
 refine kD fun⟨hs1,_⟩=>?_
 obtain⟨a1,a2,a3⟩:=Sz.jJ hs1 hn
 refine bX hT nI hm ahq rfl aV rfl 60 acT (fun _=>?_) K pre
 simp only[ag.all,az,beq_iff_eq,beq_eq_false_iff_ne,ne_eq]
 refine⟨⟨aa,a1⟩,fun hb=>bS ?_,fun hb=>⟨aa,fun hc=>bS ?_,fun hc=>bS ?_⟩⟩
 ·have h0:q=0:=pW.1 (Ey.1 aa)
  subst h0
  rfl
 ·have:=of_decide_eq_true hc
  unfold fQ;rw[if_pos this]
 ·have h1:=of_decide_eq_false hc
  have h0:q≠0:=fun h=>hb (by rw[h];rfl)
  unfold fQ;rw[if_neg h1,if_pos (MX h0 h1)]
def Mo:Spec:=bY fun l=>match l with
 |[.rat q n]=>some (aJ (.int .i64 (fQ q)) [n<2^44])
 |_=>none
theorem Xo:aU P Mo 79:=by
 refine cF fun K args r hk hs _=>?_
 split at hs
 ·simp only[ay]at hs
  subst hs
  exact fun need=>E5 need K [] trivial
 ·simp at hs
theorem KD {q:Rat} {n:Nat} (h:Sz q n):bh (.agg [.bool (decide (q<0)),.mag q.num.natAbs,.mag (if q.den=1 then 0 else q.den)]) (.rat q n):=tI h rfl rfl rfl
theorem ai8 {q:Rat} {n:Nat} (hn:n<2^44) (K:Nat) (pre:aC):aS P 197 K [.rat q n] pre (aJ (.rat q n) []):=by
 refine kD fun⟨hs1,_⟩=>?_
 have hs1:Sz q n:=hs1
 obtain⟨a1,a2,a3⟩:=Sz.jJ hs1 hn
 refine bX hT nI hm XB rfl aV rfl 60 agQ (fun _=>?_) K pre
 simp only[ag.all,az]
 exact⟨⟨aa,aa,a1,aa,a3,aa⟩,aa,KD hs1⟩
def MV:Spec:=bY fun l=>match l with
 |[.rat q n]=>some (aJ (.rat q n) [n<2^44])
 |_=>none
theorem TP:aU P MV 197:=by
 refine cF fun K args r hk hs _=>?_
 split at hs
 ·simp only[ay]at hs
  subst hs
  exact fun need=>ai8 need K [] trivial
 ·simp at hs
theorem ada {n:Int} (h1:-2^63<=n) (h2:n<2^63) (K:Nat) (pre:aC):aS P 245 K [.int .i64 n] pre (aJ (.mag n.natAbs) []):=by
 refine bX hT nI hm acL rfl aV rfl 60 VJ (fun _=>?_) K pre
 simp only[ag.all,az,beq_iff_eq,beq_eq_false_iff_ne,ne_eq]
 refine⟨fun hb=>⟨aa,dX ?_⟩,fun hb=>?_⟩
 ·subst hb;rfl
 ·have e:i64.wrap (0-n)=-n:=by rw[wrap_i64 aa aa];omega
  rw[e]
  have e2 : u64.wrap (if n < -n then -n else n) = ((n.natAbs : Nat) : Int) := by
   rw[cr (by split<;>omega) (by split<;>omega)]
   split<;>omega
  rw[e2]
  refine⟨⟨aa,aa⟩,dX (by rw[bf])⟩
def J1:Spec:=bY fun l=>match l with
 |[.int .i64 n]=>some (aJ (.mag n.natAbs) [-2^63<=n,n<2^63])
 |_=>none
theorem Xp:aU P J1 245:=by
 refine cF fun K args r hk hs _=>?_
 split at hs
 ·simp only[ay]at hs
  subst hs
  exact fun need=>ada need.1 need.2 K [] trivial
 ·simp at hs
def FQ:Spec:=bY fun l=>match l with
 |[.bool b,x,y]=>match jt x,jt y with
  |some N,some D=>some (aJ (.rat (sQ b N D) (cW (sQ b N D))) [nl N<2^40,nl D<2^40])
  |_,_=>none
 |_=>none
theorem Om:aU P FQ 213:=by
 refine cF fun K args r hk hs _=>?_
 split at hs
 ·split at hs
  ·rename_i N D h1 h2
   simp only[ay]at hs
   subst hs
   exact fun need=>iD (ae0 need.1 need.2 K []) hk ⟨.refl _,mE h1,mE h2,trivial⟩ [] trivial
  ·simp at hs
 ·simp at hs
theorem Sg:aW 166 f166:=aT func166
theorem aa3:aW 173 f173:=aT func173
theorem YW:aW 174 f174:=aT func174
theorem SN:aW 108 f108:=aT func108
def GQ:aX:=(168,HW)::(212,Fj)::(155,G9)::(213,FQ)::(170,bY (iU Mc))::(214,bY (iU DH))::(215,bY (iU Nk))::(169,bY (iU As))::(142,C8)::(211,Ny)::(79,Mo)::[]
theorem mP:bq P GQ:=aI Q8 (aI PN (aI JR (aI Om (aI Xw (aI Mr (aI aab (aI FE (aI Pr (aI Q2 (aI Xo bB))))))))))
theorem TY {q r:Rat} {n m:Nat}:bU T GQ [15,20,28,35] 60 f173 (aF f173) ⟨aQ 0 [.rat q n,.rat r m],[],0⟩=
  let c12:Nat:=q.num.natAbs;let c11:Nat:=r.num.natAbs;let c7:Nat:=2^40;let c6:Bool:=decide (q<0)!=decide (r<0);let c5:Prop:=0<1;let c4:Int:=u64.wrap ((↑(if eJ q=true then q.den else 0):Int)*(↑(if eJ r=true then r.den else 0):Int));let c10:Rat:=sQ c6 (c12*c11) (q.den*r.den);let c9:Bool:=(↑(nl c12):Int)==0;let c8:ag (List AV):=ag.aj [c5] (ag.aj [c5] (ag.leaf aq.ret [agg [AV.bool false,mag 0,mag 0]]));let c3:Int:=u64.wrap ((↑(if eJ q=true then c12 else 0):Int)*(↑(if eJ r=true then c11 else 0):Int));let c2:ag (List AV):=ag.aj [c5,c5,c5,c5,nl c12<c7,nl c11<c7,c5,c5,nl q.den<c7,nl r.den<c7,nl (c12*c11)<c7,nl (q.den*r.den)<c7,c5] (ag.aj [c5] (ag.leaf aq.ret [rat c10 (cW c10)]));let c1:ag (List AV):=ag.aj [c5] (ag.fork (eJ q) (ag.aj [c5] (ag.fork (eJ r) (ag.aj [c5,c5,(0:Int)<=c3/\c3<2^64,(0:Int)<c4/\c4<2^64,c5] (ag.aj [c5] (ag.leaf aq.ret [rat (sQ c6 c3.toNat c4.toNat) (cW (sQ c6 c3.toNat c4.toNat))]))) c2)) c2);some (ag.fork c9 (ag.aj [c5,c9=true] (ag.fork true c8 c1)) (ag.aj [c5,c9=false,c5] (ag.fork (bif false then true else(↑(nl c11):Int)==0) c8 c1))):=ah
theorem aeA {q r:Rat} {n m:Nat}:bU T GQ [14,22,29] 60 f174 (aF f174) ⟨aQ 0 [.rat q n,.rat r m],[],0⟩=
  let c10:AV:=int .i64 (0:Int);let c9:Nat:=r.num.natAbs;let c8:Nat:=q.num.natAbs;let c6:Nat:=2^40;let c5:Bool:=decide (q<0)!=decide (r<0);let c4:Prop:=0<1;let c7:Rat:=sQ c5 (c8*r.den) (q.den*c9);let c3:Int:=u64.wrap ((↑(if eJ q=true then c8 else 0):Int)*(↑(if eJ r=true then r.den else 0):Int));let c2:Int:=u64.wrap ((↑(if eJ q=true then q.den else 0):Int)*(↑(if eJ r=true then c9 else 0):Int));let c1:ag (List AV):=ag.aj [c4,c4,c4,c4,nl c8<c6,nl r.den<c6,c4,c4,nl q.den<c6,nl c9<c6,nl (c8*r.den)<c6,nl (q.den*c9)<c6,c4] (ag.aj [c4] (ag.leaf aq.ret [rat c7 (cW c7),c10]));some (ag.aj [c4,m<2^44] (ag.fork (fQ r==0) (ag.aj [c4] (ag.aj [c4] (ag.leaf aq.ret [agg [AV.bool false,mag 0,mag 0],int .i64 (3:Int)]))) (ag.aj [c4] (ag.fork (eJ q) (ag.aj [c4] (ag.fork (eJ r) (ag.aj [c4,c4,(0:Int)<=c3/\c3<2^64,(0:Int)<c2/\c2<2^64,c4] (ag.aj [c4] (ag.leaf aq.ret [rat (sQ c5 c3.toNat c2.toNat) (cW (sQ c5 c3.toNat c2.toNat)),c10]))) c1)) c1)))):=ah
abbrev fz:List Nat:=[2,3,4,6]
abbrev jc (s:Bool):List AV:=[.bool s,.ptr 0 0 3 0 [],.ptr 4096 0 3 0 [],.ptr 8192 0 3 0 []]
abbrev nM (q r:Rat) (n m:Nat):aC:=[(8192,⟨false,true,3,1,fun _=>.rat 0 1⟩),(4096,⟨false,true,3,1,fun _=>.rat r m⟩),(0,⟨false,true,3,1,fun _=>.rat q n⟩)]
abbrev Gi:Code:=part (aF f166) [1,0]
abbrev EO:Code:=part Gi [1,1,0]
abbrev uL:Code:=part EO [1,1,0]
abbrev oB:Code:=part (aF f166) [1,1]
theorem Tv {q r:Rat} {n m:Nat} {s:Bool}:aH T GQ [] 60 fz [part (aF f166) [0]] ⟨aQ 0 [.rat q n,.rat r m,.bool s],[],0⟩=
  some (ag.leaf aq.normal ([AV.bool s,ptr 0 0 (bp (rat q n)).size 0 [],ptr 4096 0 (bp (rat r m)).size 0 [],ptr 8192 0 3 0 []],[(8192,au.mk false true 3 1 fun x=>rat 0 1),(4096,au.mk false true (bp (rat r m)).size 1 fun x=>rat r m),(0,au.mk false true (bp (rat q n)).size 1 fun x=>rat q n)])):=ah
theorem agh {q r:Rat} {n m:Nat} {s:Bool}:aH T GQ [] 60 (fz++[7,8,28]) (before Gi [1,1]) ⟨aA fz (jc s),nM q r n m,8193⟩=
  some (ag.aj [(0:Nat)<1] (ag.leaf aq.normal ([AV.bool s,ptr 0 0 3 0 [],ptr 4096 0 3 0 [],ptr 8192 0 3 0 [],int .u64 (↑(if eJ q=true then q.num.natAbs else 0):Int),int .u64 (↑(if eJ q=true then q.den else 0):Int),AV.bool (eJ q)],[(8192,au.mk false true 3 1 fun x=>rat 0 1),(4096,au.mk false true 3 1 fun x=>rat r m),(0,au.mk false true 3 1 fun x=>rat q n)]))):=ah
theorem aeh {q r:Rat} {n m:Nat} {s:Bool} {x p:Nat}:aH T GQ [] 60 (fz++[7,8,10,11,35]) (before EO [1,1]) ⟨aA (fz++[7,8]) (jc s++[.int .u64 x,.int .u64 p]),nM q r n m,8193⟩=
  some (ag.aj [(0:Nat)<1] (ag.leaf aq.normal ([AV.bool s,ptr 0 0 3 0 [],ptr 4096 0 3 0 [],ptr 8192 0 3 0 [],int .u64 (↑x:Int),int .u64 (↑p:Int),int .u64 (↑(if eJ r=true then r.num.natAbs else 0):Int),int .u64 (↑(if eJ r=true then r.den else 0):Int),AV.bool (eJ r)],[(8192,au.mk false true 3 1 fun x=>rat 0 1),(4096,au.mk false true 3 1 fun x=>rat r m),(0,au.mk false true 3 1 fun x=>rat q n)]))):=ah
abbrev oR (b:Bool) (N D:Nat) (r:Rat) (m:Nat) (f:Nat->AV):aC:=[(8192,⟨false,true,3,1,f⟩),(4096,⟨false,true,3,1,fun _=>.rat r m⟩),(0,⟨false,true,3,1,fun _=>.agg [.bool b,.mag N,.mag D]⟩)]
theorem VW {r:Rat} {m N D:Nat} {x p y t:Nat}:aH T GQ [48] 60 fz [uL] ⟨aA (fz++[7,8,10,11]) (jc true++[.int .u64 x,.int .u64 p,.int .u64 y,.int .u64 t]),oR true N D r m fun _=>.rat 0 1,8193⟩=
  let c10:AV:=rat 0 1;let c8:Int:=u64.wrap ((↑x:Int)*(↑t:Int));let c7:Int:=u64.wrap ((↑y:Int)*(↑p:Int));let c6:List Prop:=[(0:Nat)<1];let c4:Int:=u64.wrap ((↑p:Int)*(↑t:Int));let c3:List (Nat×au):=[(4096,au.mk false true 3 1 fun x=>rat r m),(0,au.mk false true 3 1 fun x=>agg [AV.bool true,mag N,mag D])];let c2:List AV:=[AV.bool true,ptr 0 0 3 0 [],ptr 4096 0 3 0 [],ptr 8192 0 3 0 []];let c5:Int:=c8+c7+0;let c1:Int:=c5%(18446744073709551616:Int);let c9:Rat:=sQ true c1.toNat c4.toNat;some (ag.aj [(0:Int)<=c8,(0:Int)<=c7,(0:Int)<=0/\(0:Int)<=1] (ag.aj c6 (ag.fork (bif true==true then c5/(18446744073709551616:Int)==0 else false) (ag.aj (((0:Int)<=c1/\c1<2^64)::((0:Int)<c4/\c4<2^64)::c6) (ag.leaf aq.ret (c2,(8192,au.mk false true 3 1 fun j=>if(j==0)=true then bp (rat c9 (cW c9))else c10)::c3))) (ag.aj c6 (ag.aj c6 (ag.leaf aq.normal (c2,(8192,au.mk false true 3 1 fun x=>c10)::c3))))))):=ah
theorem aeW {r:Rat} {m N D:Nat} {x p y t:Nat}:aH T GQ [48] 60 fz [uL] ⟨aA (fz++[7,8,10,11]) (jc false++[.int .u64 x,.int .u64 p,.int .u64 y,.int .u64 t]),oR false N D r m fun _=>.rat 0 1,8193⟩=
  let c10:AV:=rat 0 1;let c8:Int:=u64.wrap ((↑y:Int)*(↑p:Int));let c7:Int:=u64.wrap ((↑x:Int)*(↑t:Int));let c6:List Prop:=[(0:Nat)<1];let c4:Int:=u64.wrap ((↑p:Int)*(↑t:Int));let c3:List (Nat×au):=[(4096,au.mk false true 3 1 fun x=>rat r m),(0,au.mk false true 3 1 fun x=>agg [AV.bool false,mag N,mag D])];let c2:List AV:=[AV.bool false,ptr 0 0 3 0 [],ptr 4096 0 3 0 [],ptr 8192 0 3 0 []];let c5:Int:=c7+c8+0;let c1:Int:=c5%(18446744073709551616:Int);let c9:Rat:=sQ false c1.toNat c4.toNat;some (ag.aj [(0:Int)<=c7,(0:Int)<=c8,(0:Int)<=0/\(0:Int)<=1] (ag.aj c6 (ag.fork (bif false==false then c5/(18446744073709551616:Int)==0 else false) (ag.aj (((0:Int)<=c1/\c1<2^64)::((0:Int)<c4/\c4<2^64)::c6) (ag.leaf aq.ret (c2,(8192,au.mk false true 3 1 fun j=>if(j==0)=true then bp (rat c9 (cW c9))else c10)::c3))) (ag.aj c6 (ag.aj c6 (ag.leaf aq.normal (c2,(8192,au.mk false true 3 1 fun x=>c10)::c3))))))):=ah
theorem X8 {r:Rat} {m N D:Nat} {x p y t:Nat}:aH T GQ [63] 60 fz [uL] ⟨aA (fz++[7,8,10,11]) (jc false++[.int .u64 x,.int .u64 p,.int .u64 y,.int .u64 t]),oR true N D r m fun _=>.rat 0 1,8193⟩=
  let c12:AV:=rat 0 1;let c9:Int:=(2:Int)^64;let c6:Prop:=0<1;let c5:List (Nat×au):=[(4096,au.mk false true 3 1 fun x=>rat r m),(0,au.mk false true 3 1 fun x=>agg [AV.bool true,mag N,mag D])];let c4:List AV:=[AV.bool false,ptr 0 0 3 0 [],ptr 4096 0 3 0 [],ptr 8192 0 3 0 []];let c3:Int:=u64.wrap ((↑p:Int)*(↑t:Int));let c2:Int:=u64.wrap ((↑x:Int)*(↑t:Int));let c1:Int:=u64.wrap ((↑y:Int)*(↑p:Int));let c13:List Prop:=[(0:Int)<c3/\c3<c9,c6];let c8:Int:=u64.wrap (c1-c2);let c7:Int:=u64.wrap (c2-c1);let c11:Rat:=sQ true c7.toNat c3.toNat;let c10:Rat:=sQ false c8.toNat c3.toNat;some (ag.aj [(0:Int)<=c2,(0:Int)<=c1,(0:Int)<=0/\(0:Int)<=1] (ag.aj [c6] (ag.aj [c6] (ag.fork (bif true !=false then decide (c2>=c1)else false) (ag.aj (c6::((0:Int)<=c7/\c7<c9)::c13) (ag.leaf aq.ret (c4,(8192,au.mk false true 3 1 fun j=>if(j==0)=true then bp (rat c11 (cW c11))else c12)::c5))) (ag.aj [c6] (ag.aj (((0:Int)<=c8/\c8<c9)::c13) (ag.leaf aq.ret (c4,(8192,au.mk false true 3 1 fun j=>if(j==0)=true then bp (rat c10 (cW c10))else c12)::c5)))))))):=ah
theorem ajq {r:Rat} {m N D:Nat} {x p y t:Nat}:aH T GQ [63] 60 fz [uL] ⟨aA (fz++[7,8,10,11]) (jc true++[.int .u64 x,.int .u64 p,.int .u64 y,.int .u64 t]),oR false N D r m fun _=>.rat 0 1,8193⟩=
  let c13:AV:=rat 0 1;let c9:Int:=(2:Int)^64;let c6:Prop:=0<1;let c5:List (Nat×au):=[(4096,au.mk false true 3 1 fun x=>rat r m),(0,au.mk false true 3 1 fun x=>agg [AV.bool false,mag N,mag D])];let c4:List AV:=[AV.bool true,ptr 0 0 3 0 [],ptr 4096 0 3 0 [],ptr 8192 0 3 0 []];let c3:Int:=u64.wrap ((↑p:Int)*(↑t:Int));let c2:Int:=u64.wrap ((↑x:Int)*(↑t:Int));let c1:Int:=u64.wrap ((↑y:Int)*(↑p:Int));let c12:List Prop:=[(0:Int)<c3/\c3<c9,c6];let c8:Int:=u64.wrap (c1-c2);let c7:Int:=u64.wrap (c2-c1);let c11:Rat:=sQ true c8.toNat c3.toNat;let c10:Rat:=sQ false c7.toNat c3.toNat;some (ag.aj [(0:Int)<=c2,(0:Int)<=c1,(0:Int)<=0/\(0:Int)<=1] (ag.aj [c6] (ag.aj [c6] (ag.fork (bif false !=true then decide (c2>=c1)else false) (ag.aj (c6::((0:Int)<=c7/\c7<c9)::c12) (ag.leaf aq.ret (c4,(8192,au.mk false true 3 1 fun j=>if(j==0)=true then bp (rat c10 (cW c10))else c13)::c5))) (ag.aj [c6] (ag.aj (((0:Int)<=c8/\c8<c9)::c12) (ag.leaf aq.ret (c4,(8192,au.mk false true 3 1 fun j=>if(j==0)=true then bp (rat c11 (cW c11))else c13)::c5)))))))):=ah
theorem Su {b s:Bool} {r:Rat} {m N D k:Nat} {z:Rat}:kH T f166 .ret ⟨aA fz (jc s),oR b N D r m fun j=>if j=0 then bp (.rat z k)else .rat 0 1,8193⟩=
  some (ag.aj [(0:Nat)<1] (ag.leaf aq.ret [rat z k])):=ah
theorem UJ {q r:Rat} {n m:Nat} {s:Bool}:aH T GQ [106] 60 (fz++[15,16,17]) (before oB [1,1]) ⟨aA fz (jc s),nM q r n m,8193⟩=
  let c8:AV:=ptr 0 0 3 0 [];let c7:AV:=ptr 8192 0 3 0 [];let c6:AV:=ptr 4096 0 3 0 [];let c5:Nat:=if r.den=1 then 0 else r.den;let c4:Nat:=if q.den=1 then 0 else q.den;let c3:Prop:=0<1;let c2:Nat:=2^40;let c1:List (Nat×au):=[(8192,au.mk false true 3 1 fun x=>rat 0 1),(4096,au.mk false true 3 1 fun x=>rat r m),(0,au.mk false true 3 1 fun x=>rat q n)];some (ag.aj [c3,c3,c3] (ag.aj [c3,c3,nl c4<c2,nl c5<c2] (ag.fork (!decide (c4=c5)) (ag.aj [c3,nl q.num.natAbs<c2,nl r.den<c2,c3,nl r.num.natAbs<c2,nl q.den<c2,c3,nl q.den<c2,nl r.den<c2] (ag.leaf aq.normal ([AV.bool s,c8,c6,c7,mag (q.num.natAbs*r.den),mag (r.num.natAbs*q.den),mag (q.den*r.den)],c1))) (ag.leaf aq.normal ([AV.bool s,c8,c6,c7,mag q.num.natAbs,mag r.num.natAbs,mag q.den],c1))))):=ah
theorem S3 {q r:Rat} {n m:Nat} {s:Bool} {X Y D:Nat}:cy T GQ [122,136] 60 f166 [part oB [1,1]] ⟨aA (fz++[15,16,17]) (jc s++[.mag X,.mag Y,.mag D]),nM q r n m,8193⟩=
  let c3:Bool:=decide (q<0);let c2:Prop:=0<1;let c1:Nat:=2^40;some (ag.aj [c2] (ag.fork (c3==s) (ag.aj [nl X<c1,nl Y<c1,nl (X+Y)<c1,nl D<c1,c2] (ag.aj [c2] (ag.leaf aq.ret [rat (sQ s (X+Y) D) (cW (sQ s (X+Y) D))]))) (ag.aj [nl X<c1,nl Y<c1] (ag.fork ((if X<Y then(7:Int)else(0:Int))==0) (ag.aj [c2,nl (X-Y)<c1,nl D<c1,c2] (ag.aj [c2] (ag.leaf aq.ret [rat (sQ c3 (X-Y) D) (cW (sQ c3 (X-Y) D))]))) (ag.aj [nl Y<c1,nl X<c1] (ag.aj [nl (Y-X)<c1,nl D<c1,c2] (ag.aj [c2] (ag.leaf aq.ret [rat (sQ s (Y-X) D) (cW (sQ s (Y-X) D))])))))))):=ah
end Go.Am.B
