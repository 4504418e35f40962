/- natural.Div: its loops. -/
import Derived.Test.YtppeigelbecpbaaGreatB9
set_option linter.unusedVariables false
namespace Go.Am.B
open Go Go.Am.N AV
theorem je:aY P GD:=aG El (aG E2 (aG ag9 (aG Wp (aG aew gj))))
theorem Ax:aY P GT:=aG aho bk
section pieces
variable {c:Ctx} (h0:∀k x,c.k0 k=some x→k<9) {Q:aj→aF→Prop} {lq s lu V j:Nat} {q u:Nat→Nat} {s':aF}
theorem iC {lq lu:Nat} {q u:Nat→Nat}:gn 9 (cz lq lu q u):=⟨⟨by omega,fun _ _=>rfl⟩,⟨by omega,fun _ _=>rfl⟩,trivial⟩
theorem ef {a:Int} {n:Nat} (h:a=n) (hn:n<2^63):IntKind.i64.wrap a=(n:Int):=by rw[h,wrap_i64 (by omega) (by omega)]
theorem gL {a b v:Bool} (h:(bif false then a else b)=v):b=v:=h
theorem Lf {a b:Nat} (h:(a:Int)>(b:Int)):b<a:=by omega
theorem aaL {a b:Nat} (h:¬(a:Int)>(b:Int)):a≤b:=by omega
abbrev nr:List Nat:=cN++[15,16]
abbrev yL (lq s lu V:Nat) (j x:Int) (rest:Nat):List AV:=ew lq s lu V j++[.int .u64 x,.int .u64 (rest:Nat)]
include h0 in
theorem Xm {top qt v1 v2 u3 x0 r0:Nat} (hlu:lu<2^41) (hn:2≤nl V) (hj:j+nl V<lu) (e1:az V (nl V-1)=v1) (e2:az V (nl V-2)=v2) (e3:u (j+nl V-2)=u3) (hu3:u3<4294967296)
  (hx0:x0*v1+r0=top) (hr0:r0<4294967296) (hq0:qt≤x0) (hx33:x0<2^34)
  (hbig:qt<4294967296) (hstep:∀x rest,x*v1+rest=top→rest*4294967296+u3<x*v2→qt<x) (hsmall:∀x rest,x*v1+rest=top→4294967296≤rest→x<4294967296)
  (hv:aX nr s'=some (yL lq s lu V j x0 r0,cz lq lu q u))
  (fin:∀x rest s',x<4294967296→x*v1+rest=top→qt≤x→x*v2≤rest*4294967296+u3→aX nr s'=some (yL lq s lu V j x rest,cz lq lu q u)→Q .normal s'):
  aq P c dI.ntmps (part oA [1,1,0]) s' Q:=by
 refine aq.gC (i:=3) (y:=part oA [1,1,0,0,0]) (by kernel_rfl) nr 9 h0 (fun p:Nat×Nat=>yL lq s lu V j p.1 p.2) (fun _=>cz lq lu q u) (fun _=>rfl) (fun _=>iC)
  (fun p=>p.1*v1+p.2=top∧p.2<4294967296∧qt≤p.1∧p.1<2^34) (fun p=>p.1) (x0,r0) hv ⟨hx0,hr0,hq0,hx33⟩ ?_
 rintro⟨x,rest⟩ ⟨ht,hr,hq,hx⟩
 simp only at ht hr hq hx
 show aq P c dI.ntmps _ ⟨aA nr (yL lq s lu V j (x:Int) rest),cz lq lu q u,9⟩ _
 obtain⟨X,hX⟩:∃X:Int,X=(x:Int):=⟨_,rfl⟩
 rw[←hX]
 refine aq.bf hT je hm 60 nr (UN (x:=X)) (by kernel_rfl) ?_
 rw[hX]
 have w1:IntKind.i64.wrap ((nl V:Int)-1)=((nl V-1:Nat):Int):=ef (by omega) (by omega)
 have w2:IntKind.i64.wrap ((nl V:Int)-2)=((nl V-2:Nat):Int):=ef (by omega) (by omega)
 have w3:IntKind.i64.wrap ((j:Int)+(nl V:Int))=((j+nl V:Nat):Int):=ef (by omega) (by omega)
 have w4:IntKind.i64.wrap (((j+nl V:Nat):Int)-2)=((j+nl V-2:Nat):Int):=ef (by omega) (by omega)
 have hv1:az V (nl V-1)<4294967296:=de
 have hv2:az V (nl V-2)<4294967296:=de
 have w5:IntKind.u64.wrap ((rest:Int)+IntKind.u64.wrap (az V (nl V-1):Int))=((rest+v1:Nat):Int):=by
  rw[bN (x:=(az V (nl V-1):Int)) (by omega) (by omega),bN (by omega) (by omega),e1];omega
 rw[w1,w2,w3,w4]
 simp only[aa.all,ax,Int.toNat_natCast,Nat.add_zero,w5,e3]
 rw[tq hr hu3]
 have next:∀{s':aF},qt<x→rest+v1<4294967296→aX nr s'=some ([.own 8 1 0 lq,.int .i64 s,.own 7 1 0 lu,.mag V,.int .i64 (nl V),.int .i64 j,.int .u64 (IntKind.u64.wrap ((x:Int)-1)),.int .u64 ((rest+v1:Nat):Int)],cz lq lu q u)→
   ∃k:Nat×Nat,aX nr s'=some (yL lq s lu V j k.1 k.2,cz lq lu q u)∧(k.1*v1+k.2=top∧k.2<4294967296∧qt≤k.1∧k.1<2^34)∧k.1<x:=by
  intro s' h1 h2 hv
  refine⟨(x-1,rest+v1),?_,⟨?_,h2,by simp only;omega,by simp only;omega⟩,by simp only;omega⟩
  ·refine dm hv ?_ rfl
   rw[bN (x:=(x:Int)-1) (by omega) (by omega),show(x:Int)-1=((x-1:Nat):Int) by omega]
   rfl
  ·simp only
   obtain⟨y,rfl⟩:∃y,x=y+1:=⟨x-1,by omega⟩
   rw[Nat.add_mul]at ht
   simp only[Nat.add_sub_cancel];omega
 have last:∀{s':aF},qt<x→4294967296≤rest+v1→aX nr s'=some ([.own 8 1 0 lq,.int .i64 s,.own 7 1 0 lu,.mag V,.int .i64 (nl V),.int .i64 j,.int .u64 (IntKind.u64.wrap ((x:Int)-1)),.int .u64 ((rest+v1:Nat):Int)],cz lq lu q u)→Q .normal s':=by
  intro s' h1 h2 hv
  have ht':(x-1)*v1+(rest+v1)=top:=by
   obtain⟨y,rfl⟩:∃y,x=y+1:=⟨x-1,by omega⟩
   rw[Nat.add_mul]at ht
   simp only[Nat.add_sub_cancel];omega
  have hsm:=hsmall _ _ ht' h2
  refine fin (x-1) (rest+v1) s' hsm ht' (by omega) ?_ (dm hv ?_ rfl)
  ·have a1:(x-1)*v2≤4294967295*4294967295:=Nat.mul_le_mul (by omega) (by omega)
   omega
  ·rw[bN (x:=(x:Int)-1) (by omega) (by omega),show(x:Int)-1=((x-1:Nat):Int) by omega]
   rfl
 refine⟨fun hb=>⟨hb,fun _=>⟨by omega,fun h1 s' hv=>?_,fun h1 s' hv=>?_⟩,fun h=>by simp at h⟩,fun hb=>⟨⟨hb,by omega,by omega,by omega,by omega⟩,?_⟩⟩
 ·simp only[decide_eq_true_eq]at hb h1
  exact eV (last (by omega) (by omega) hv)
 ·simp only[decide_eq_true_eq,decide_eq_false_iff_not]at hb h1
  exact next (by omega) (by omega) hv
 ·simp only[decide_eq_false_iff_not]at hb
  have hxB:x<4294967296:=by omega
  have m1:x*az V (nl V-2)≤(2^32-1)*(2^32-1):=Nat.mul_le_mul (by omega) (by omega)
  have w6:IntKind.u64.wrap ((x:Int)*IntKind.u64.wrap (az V (nl V-2):Int))=((x*v2:Nat):Int):=by
   rw[bN (x:=(az V (nl V-2):Int)) (by omega) (by omega),e2]
   have:(x:Int)*(v2:Int)=((x*v2:Nat):Int):=by simp
   rw[this,bN (by omega) (by rw[e2]at m1;omega)]
  rw[w6]
  refine⟨fun h1=>⟨by omega,fun h2 s' hv=>?_,fun h2 s' hv=>?_⟩,fun h1 s' hv=>?_⟩
  ·simp only[decide_eq_true_eq]at h2
   exact eV (last (hstep x rest ht (Lf (of_decide_eq_true (gL h1)))) (by clear h1 w6 m1;omega) hv)
  ·simp only[decide_eq_false_iff_not]at h2
   exact next (hstep x rest ht (Lf (of_decide_eq_true (gL h1)))) (by clear h1 w6 m1;omega) hv
  ·skip
   exact eV (fin x rest s' hxB ht hq (aaL (of_decide_eq_false (gL h1))) hv)
abbrev xR:List Nat:=cN++[15,17,18,154,155,156]
abbrev C5 (lq s lu V:Nat) (j:Int) (x b c i:Nat):List AV:=ew lq s lu V j++[.int .u64 (x:Nat),.int .u64 (b:Nat),.int .u64 (c:Nat),.mag V,.int .i64 (nl V),.int .i64 (i:Nat)]
include h0 in
theorem ad4 {x:Nat} (hlu:lu<2^41) (hj:j+nl V<lu) (hx:x<4294967296) (hu:∀i,i<lu→u i<2^32)
  (hv:aX xR s'=some (C5 lq s lu V j x 0 0 0,cz lq lu q u))
  (fin:∀b c u' s',b≤1→c<4294967296→(∀i,i<lu→u' i<2^32)→(∀i,i<j∨j+nl V≤i→u' i=u i)→
   val (nl V) (fun i=>u' (j+i))+x*V=val (nl V) (fun i=>u (j+i))+(c+b)*2^(32*nl V)→aX xR s'=some (C5 lq s lu V j x b c (nl V),cz lq lu q u')→Q .normal s'):
  aq P c dI.ntmps (part uL [1,0,1]) s' Q:=by
 refine aq.gC (i:=5) (y:=part uL [1,0,1,0,0]) (by kernel_rfl) xR 9 h0 (fun p:Nat×Nat×Nat×(Nat→Nat)=>C5 lq s lu V j x p.2.1 p.2.2.1 p.1) (fun p=>cz lq lu q p.2.2.2) (fun _=>rfl) (fun _=>iC)
  (fun p=>p.1≤nl V∧p.2.1≤1∧p.2.2.1<4294967296∧(∀i,i<lu→p.2.2.2 i<2^32)∧(∀i,i<j∨j+p.1≤i→p.2.2.2 i=u i)∧
   val p.1 (fun i=>p.2.2.2 (j+i))+x*val p.1 (az V)=val p.1 (fun i=>u (j+i))+(p.2.2.1+p.2.1)*2^(32*p.1)) (fun p=>nl V-p.1) (0,0,0,u) hv
  ⟨by simp,by simp,by simp,hu,fun i _=>rfl,by simp[val]⟩ ?_
 rintro⟨i,b,cc,u'⟩ ⟨hi,hb,hc,hu',hout,hval⟩
 simp only at hi hb hc hu' hout hval
 refine aq.bf hT je hm 60 xR div_mul (by kernel_rfl) ?_
 simp only[aa.all,ax,decide_eq_true_eq,decide_eq_false_iff_not,beq_iff_eq]
 refine⟨fun h1=>?_,fun h1 s' hv=>?_⟩
 ·have hin:i<nl V:=by omega
  have w1:IntKind.i64.wrap ((i:Int)+(j:Int))=((j+i:Nat):Int):=ef (by omega) (by omega)
  rw[w1]
  simp only[Int.toNat_natCast,Nat.add_zero]
  obtain⟨m1,m2,m3⟩:=aaO hc hx (de (N:=V) (i:=i))
  have hui:=hu' (j+i) (by omega)
  obtain⟨g1,g2⟩:=On (u:=u' (j+i)) (c:=(cc+x*az V i)%4294967296) hui (by omega) hb
  rw[m1,Y6 m2,g1,g2,kB]
  refine⟨by omega,by omega,by omega,by omega,by omega,fun s' hv=>⟨(i+1,(if(cc+x*az V i)%4294967296+b≤u' (j+i)then 0 else 1),(cc+x*az V i)/4294967296,bU u' (j+i) ((u' (j+i)+4294967296-(cc+x*az V i)%4294967296-b)%4294967296)),dm hv ?_ ?_,⟨by simp only;omega,by simp only;split<;>omega,m3,gT (by omega) hu',fun k hk=>?_,?_⟩,by simp only;omega⟩⟩
  ·rw[ef (a:=(i:Int)+1) (n:=i+1) (by omega) (by omega)]
   simp only[C5,ew,List.cons_append,List.nil_append,List.cons.injEq,AV.int.injEq,and_true,true_and]
   omega
  ·simp only[cz]
   congr 4
   funext k
   exact gu rfl k
  ·simp only at hk ⊢
   rw[fm (by omega)]
   exact hout k (by omega)
  ·simp only
   rw[val,val,val,jM,val_congr (y:=fun i=>u' (j+i)) fun k hk=>fm (by omega),gz,←hout (j+i) (by omega)]
   exact Uj (by omega) hb hui rfl hval
 ·have hin:i=nl V:=by omega
  subst hin
  rw[fJ]at hval
  exact eV (fin b cc u' s' hb hc hu' hout hval hv)
abbrev yE:List Nat:=cN++[15,18,214,215,216]
abbrev DH (lq s lu V:Nat) (j:Int) (x c i:Nat):List AV:=ew lq s lu V j++[.int .u64 (x:Nat),.int .u64 (c:Nat),.mag V,.int .i64 (nl V),.int .i64 (i:Nat)]
include h0 in
theorem ae3 {x:Nat} (hlu:lu<2^41) (hj:j+nl V<lu) (hu:∀i,i<lu→u i<2^32)
  (hv:aX yE s'=some (DH lq s lu V j x 0 0,cz lq lu q u))
  (fin:∀c u' s',c≤1→(∀i,i<lu→u' i<2^32)→(∀i,i<j∨j+nl V≤i→u' i=u i)→
   val (nl V) (fun i=>u' (j+i))+c*2^(32*nl V)=val (nl V) (fun i=>u (j+i))+V→aX yE s'=some (DH lq s lu V j x c (nl V),cz lq lu q u')→Q .normal s'):
  aq P c dI.ntmps (part rX [1,1,0,1]) s' Q:=by
 refine aq.gC (i:=7) (y:=part rX [1,1,0,1,0,0]) (by kernel_rfl) yE 9 h0 (fun p:Nat×Nat×(Nat→Nat)=>DH lq s lu V j x p.2.1 p.1) (fun p=>cz lq lu q p.2.2) (fun _=>rfl) (fun _=>iC)
  (fun p=>p.1≤nl V∧p.2.1≤1∧(∀i,i<lu→p.2.2 i<2^32)∧(∀i,i<j∨j+p.1≤i→p.2.2 i=u i)∧
   val p.1 (fun i=>p.2.2 (j+i))+p.2.1*2^(32*p.1)=val p.1 (fun i=>u (j+i))+val p.1 (az V)) (fun p=>nl V-p.1) (0,0,u) hv
  ⟨by simp,by simp,hu,fun i _=>rfl,by simp[val]⟩ ?_
 rintro⟨i,cc,u'⟩ ⟨hi,hc,hu',hout,hval⟩
 simp only at hi hc hu' hout hval
 refine aq.bf hT je hm 60 yE div_add (by kernel_rfl) ?_
 simp only[aa.all,ax,decide_eq_true_eq,decide_eq_false_iff_not,beq_iff_eq]
 refine⟨fun h1=>?_,fun h1 s' hv=>?_⟩
 ·have hin:i<nl V:=by omega
  have w1:IntKind.i64.wrap ((i:Int)+(j:Int))=((j+i:Nat):Int):=ef (by omega) (by omega)
  rw[w1]
  simp only[Int.toNat_natCast,Nat.add_zero]
  have hui:=hu' (j+i) (by omega)
  have hvi:=de (N:=V) (i:=i)
  have m1:IntKind.u64.wrap ((cc:Int)+IntKind.u64.wrap (IntKind.u64.wrap (u' (j+i):Int)+IntKind.u64.wrap (az V i:Int)))=((cc+u' (j+i)+az V i:Nat):Int):=by
   rw[bN (x:=(u' (j+i):Int)) (by omega) (by omega),bN (x:=(az V i:Int)) (by omega) (by omega),bN (x:=(u' (j+i):Int)+_) (by omega) (by omega),bN (by omega) (by omega)]
   omega
  rw[m1,kB]
  refine⟨by omega,by omega,by omega,by omega,fun s' hv=>⟨(i+1,(cc+u' (j+i)+az V i)/4294967296,bU u' (j+i) ((cc+u' (j+i)+az V i)%4294967296)),dm hv ?_ ?_,⟨by simp only;omega,by simp only;omega,gT (by omega) hu',fun k hk=>?_,?_⟩,by simp only;omega⟩⟩
  ·rw[ef (a:=(i:Int)+1) (n:=i+1) (by omega) (by omega)]
   simp only[DH,ew,List.cons_append,List.nil_append,List.cons.injEq,AV.int.injEq,and_true,true_and]
   omega
  ·simp only[cz]
   congr 4
   funext k
   exact gu (by rw[jr]) k
  ·simp only at hk ⊢
   rw[fm (by omega)]
   exact hout k (by omega)
  ·simp only
   rw[val,val,val,jM,val_congr (y:=fun i=>u' (j+i)) fun k hk=>fm (by omega),gz,←hout (j+i) (by omega)]
   have:=Et (B:=2^(32*i)) (c:=cc) (z:=u' (j+i)) (y:=az V i) rfl hval
   omega
 ·have hin:i=nl V:=by omega
  subst hin
  rw[fJ]at hval
  exact eV (fin cc u' s' hc hu' hout hval hv)
end pieces
end Go.Am.B
