/- gb.Check, ref08.Check. -/
import Derived.Test.YtnniljlepppdpaaGreatY37
import Derived.Test.YtnniljlepppdpaaGreatZ2
set_option linter.unusedVariables false
noncomputable section
namespace Go.Am.B
open Go Go.Am.N AV ah ax IntKind
theorem alf:aT P yR vP (ay vP):=aU Proofs.Tryz.func92 ag ag ag
def G6:bf:=(Gg,PG)::(Fj,MF)::(y5,vw)::vU
abbrev xy:Code:=ay vP
abbrev tv:List Nat:=[0,1,4,48,49,50]
abbrev LL (n:Nat) (k:Nat->Rat) (p:Int) (d:Nat) (f:Nat->Rat) (i:Nat):List AV:=[br k n sJ,.int .i64 p,.int .i64 0,br f d sK,.int .i64 d,.int .i64 i]
theorem aoP {n:Nat} {k:Nat->Rat} {p:Int}:aG T G6 [18,15,22,29,35,46] 60 tv (before xy [1,1,1,0,1]) ⟨aP 0 [br k n sJ,.int .i64 p],[],0⟩=
  let c16:Int:=(↑n:Int);let c15:Prop:=bt (fun i=>rat (k i) sJ) n sK;let c14:Nat:=Int.toNat (0:Int);let c13:Nat:=cK (fun i=>aL (rat (k i) sJ)) n;let c11:Bool:=decide (p<1);let c10:Int:=i64.wrap (i64.wrap ((2:Int)*p)+2);let c9:Prop:=n<2^40;let c7:List AV:=[tuple [],tuple [],tuple []];let c6:Bool:=!rF (rW n fun i=>aL (rat (k i) sJ));let c3:AV:=aq 3 n fun i=>rat (k i) 4000;let c12:List AV:=c3::int i64 p::int i64 1::c7;let c8:Int:=i64.wrap (i64.wrap (c16-p)-1);let c5:Int:=i64.wrap (c16-1);let c4:ah (List AV×aE):=leaf ret (c3::int i64 p::int i64 5::c7,[]);let c2:ah (List AV×aE):=aj [bt (fun i=>rat (k i) sJ) n sJ,c9] (leaf normal ([c3,int i64 p,int i64 0,aq 3 c13 fun i=>rat (ee (fun i=>aL (rat (k i) sJ)) n i) 4096,int i64 (↑c13:Int),int i64 0],[]));let c1:ah (List AV×aE):=fork (decide (c16<c10)) c4 (fork (decide (c8>40)) (leaf ret (c3::int i64 p::int i64 2::c7,[])) (fork c6 (aj [c15,c9,c6=true] (fork true c4 c2)) (aj [c15,c9,c6=false,(0:Int)<=0/\c14<n,(0:Int)<=c5/\c5.toNat<n] (fork (bif false then true else decide (k c14=k c5.toNat)) c4 c2))));some (fork c11 (aj [c11=true] (fork true (leaf ret (c12,[])) c1)) (aj [c11=false] (fork (bif false then true else decide (p>6)) (leaf ret (c12,[])) c1))):=ag
theorem aeE {n d i:Nat} {k f:Nat->Rat} {p:Int}:aG T G6 [51,62,73,79,82,87] 60 tv [part xy [1,1,1,0,1,0,0]] ⟨aB tv (LL n k p d f i),[],1⟩=
  let c18:Int:=(↑d:Int);let c16:Prop:=false=false;let c13:Int:=(↑i:Int);let c12:Prop:=0<1;let c11:AV:=aq 3 d fun i=>rat (f i) 4096;let c10:AV:=aq 3 n fun i=>rat (k i) 4000;let c9:Int:=i64.wrap ((↑n:Int)-1);let c8:Nat:=Int.toNat (0:Int);let c17:Prop:=(0:Int)<=0/\c8<n;let c14:List AV:=[c11,int i64 c18,int i64 c13];let c7:Rat:=f c13.toNat;let c1:ah (List AV×aE):=leaf normal ([c10,int i64 p,int i64 0,c11,int i64 c18,int i64 (i64.wrap (c13+1))],[]);let c15:Bool:=decide (c7=k c8);let c4:Int:=(↑(cL (fun i=>aL (rat (k i) sJ)) c7 n):Int);let c3:Bool:=bif false then true else decide (c7=k c9.toNat);let c2:ah (List AV×aE):=leaf ret (c10::int i64 p::int i64 5::c14,[]);let c6:ah (List AV×aE):=fork (bif false then true else bif true then decide (c4>p)else false) c2 c1;let c5:Bool:=bif true then c4 !=i64.wrap (p+1)else false;some (fork (decide (c13<c18)) (aj [(0:Int)<=c13/\c13.toNat<d,c12] (aj [c12,bt (fun i=>rat (k i) sJ) n sK,sK<=sK,n<2^40] (fork c15 (aj [c12,c17,c15=true] (fork true (fork c5 (aj [true=true,c5=true] (fork true c2 c1)) (fork false (aj [true=true,c5=false,(!true)=true] c6) (aj [true=true,c5=false,(!true)=false] (fork false c2 c1)))) (fork false (aj [true=false,false=true] (fork true c2 c1)) (fork false (aj [true=false,c16,(!true)=true] c6) (aj [true=false,c16,(!true)=false] (fork false c2 c1)))))) (aj [c12,c17,c15=false,c12,(0:Int)<=c9/\c9.toNat<n] (fork c3 (fork c5 (aj [c3=true,c5=true] (fork true c2 c1)) (fork (!c3) (aj [c3=true,c5=false,(!c3)=true] c6) (aj [c3=true,c5=false,(!c3)=false] (fork false c2 c1)))) (fork false (aj [c3=false,false=true] (fork true c2 c1)) (fork (!c3) (aj [c3=false,c16,(!c3)=true] c6) (aj [c3=false,c16,(!c3)=false] (fork false c2 c1))))))))) (leaf (exit 1) (c10::int i64 p::int i64 0::c14,[]))):=ag
theorem acq {n d i:Nat} {k f:Nat->Rat} {p:Int}:cj T G6 [] 60 vP [part xy [1,1,1,1]] ⟨aB tv (LL n k p d f i),[],1⟩=
  some (leaf ret [int i64 0]):=ag
theorem aaD:bu P G6:=aI abp (aI Qu (aI Oq xO))
def vH (n:Nat) (p:Int):Prop:=1<=p/\p<=6/\2*p+2<=(n:Int)/\(n:Int)-p-1<=40
theorem ad2 {n:Nat} {k:Nat->Rat} {p:Int} (hn:n<2^40) (K:Nat):aQ P yR K [br k n sJ,.int .i64 p] [] (aJ (.int .i64 (gY n k p)) []):=by
 refine ij (r:=aJ (.int .i64 (gY n k p)) []) hT aaD hm alf rfl aX rfl [1,1,1,0,1] (i:=1) (y:=part xy [1,1,1,0,1,0,0]) (z:=part xy [1,1,1,1]) ag ag ag (f1:=[18,15,22,29,35,46]) (f2:=[51,62,73,79,82,87]) (f3:=[]) 60 tv 1
  (fun i:Nat=>LL n k p (cK k n) (ee k n) i) (fun _=>[]) (fun i=>i<=cK k n/\vH n p/\rW n k/\k 0≠k (n-1)/\∀j,j<i->¬lp n k p.toNat (ee k n j)) (fun _=>vH n p/\rL n k p.toNat) (fun i=>cK k n-i) (fun _=>⟨⟨_,aoP,?_⟩,fun i ⟨h1,h2,h3,h4,h5⟩=>⟨_,aeE,?_⟩,fun i ⟨h1,h2⟩=>⟨_,acq,?_⟩⟩) K []
 ·have r:∀{e:Int} {u:AV},gY n k p=e->pF vP tv (.int .i64 (gY n k p)) ([u,.int .i64 p,.int .i64 e,.tuple [],.tuple [],.tuple []],[]):=fun h=>⟨[.int .i64 _],ag,bK h.symm⟩
  by_cases hp:1<=p/\p<=6
  ·have e1:i64.wrap (i64.wrap (2*p)+2)=2*p+2:=by rw[wrap_i64 (show-2^63<=2*p by omega) aa];exact wrap_i64 aa aa
   have e2:i64.wrap (i64.wrap ((n:Int)-p)-1)=(n:Int)-p-1:=by rw[wrap_i64 (show-2^63<=(n:Int)-p by omega) aa];exact wrap_i64 aa aa
   have e3:i64.wrap ((n:Int)-1)=(n:Int)-1:=wrap_i64 aa aa
   have e5:((n:Int)-1).toNat=n-1:=aa
   simp only[ah.all,aA,decide_eq_true_eq,decide_eq_false_iff_not,Bool.not_eq_true',Bool.not_eq_false',cond_true,cond_false,Int.toNat_natCast,Int.toNat_zero,xE,e1,e2,e3,e5]
   (repeat' with_reducible first|refine And.intro ?_ ?_|intro _)
   all_goals first|exact absurd ‹true=false› (by decide)|exact absurd ‹false=true› (by decide)|omega|(exfalso;omega)|exact bP (by decide)|assumption|exact r (YV aa aa)|exact r (ak5 aa aa aa)|exact r (H9 aa aa aa fun h=>alS ‹_› h.1)|exact r (H9 aa aa aa fun h=>h.2.1 ‹_›)|exact⟨0,⟨Nat.zero_le _,⟨aa,aa,aa,aa⟩,ahF ‹_›,‹_›,fun j hj=>absurd hj (Nat.not_lt_zero j)⟩,cU.vals rfl⟩|skip
   skip
  ·simp only[ah.all,aA,decide_eq_true_eq,decide_eq_false_iff_not,Bool.not_eq_true',Bool.not_eq_false',cond_true,cond_false,Int.toNat_natCast]
   (repeat' with_reducible first|refine And.intro ?_ ?_|intro _)
   all_goals first|exact absurd ‹true=false› (by decide)|exact absurd ‹false=true› (by decide)|omega|(exfalso;omega)|exact r (ahV aa)|skip
   skip
 ·obtain⟨q,rfl⟩:∃q:Nat,p=(q:Int):=⟨p.toNat,by have:=h2.1;omega⟩
  have hq:=h2
  unfold vH at hq
  have e1:i64.wrap ((q:Int)+1)=((q+1:Nat):Int):=by rw[wrap_i64 aa aa];rfl
  have e2:i64.wrap ((i:Int)+1)=((i+1:Nat):Int):=by rw[wrap_i64 aa (by have:=uf (k:=k) (n:=n);omega)];rfl
  have e3:i64.wrap ((n:Int)-1)=(n:Int)-1:=wrap_i64 aa aa
  have e5:((n:Int)-1).toNat=n-1:=aa
  simp only[Int.toNat_natCast]at h5
  have hd:=uf (k:=k) (n:=n)
  have r:∀{u v w x y:AV},lp n k q (ee k n i)->i<cK k n->pF vP tv (.int .i64 (gY n k q)) ([u,v,.int .i64 5,w,x,y],[]):=fun h hi=>⟨[.int .i64 5],ag,bK (H9 aa aa aa fun hk=>hk.2.2 i hi (by rw[Int.toNat_natCast];exact h)).symm⟩
  have nx:¬lp n k q (ee k n i)->i<cK k n->∀j,j<i+1->¬lp n k q (ee k n j):=fun h hi j hj=>by
   by_cases he:j=i
   ·subst he;exact h
   ·exact h5 j aa
  simp only[ah.all,aA,decide_eq_true_eq,decide_eq_false_iff_not,Bool.not_eq_true',Bool.not_eq_false',cond_true,cond_false,Int.toNat_natCast,Int.toNat_zero,xE,e1,e2,e3,e5,bne_iff_ne,bne_eq_false_iff_eq,ne_eq]
  obtain⟨c,hc⟩:∃c,cL k (ee k n i) n=c:=⟨_,rfl⟩
  have hc':cL (fun i=>k i) (ee k n i) n=c:=hc
  simp only[hc']
  have b1:ee k n i=k 0->c≠q+1->lp n k q (ee k n i):=fun h1 h2=>.inl ⟨.inl h1,by rw[hc];exact h2⟩
  have b2:ee k n i=k (n-1)->c≠q+1->lp n k q (ee k n i):=fun h1 h2=>.inl ⟨.inr h1,by rw[hc];exact h2⟩
  have b3:¬ee k n i=k 0->¬ee k n i=k (n-1)->q<c->lp n k q (ee k n i):=fun h1 h2 h3=>.inr ⟨fun h=>h.elim h1 h2,by rw[hc];exact h3⟩
  have g1:ee k n i=k 0->c=q+1->¬lp n k q (ee k n i):=by
   rintro h1 h2 (⟨_,h3⟩|⟨h3,_⟩)
   ·exact h3 (by rw[hc];exact h2)
   ·exact h3 (.inl h1)
  have g2:ee k n i=k (n-1)->c=q+1->¬lp n k q (ee k n i):=by
   rintro h1 h2 (⟨_,h3⟩|⟨h3,_⟩)
   ·exact h3 (by rw[hc];exact h2)
   ·exact h3 (.inr h1)
  have g3:¬ee k n i=k 0->¬ee k n i=k (n-1)->c<=q->¬lp n k q (ee k n i):=by
   rintro h1 h2 h3 (⟨h4,_⟩|⟨_,h4⟩)
   ·exact h4.elim h1 h2
   ·rw[hc]at h4;omega
  clear hc hc'
  (repeat' with_reducible first|refine And.intro ?_ ?_|intro _)
  all_goals first|exact absurd ‹true=false› (by decide)|exact absurd ‹false=true› (by decide)|omega|(exfalso;omega)|exact bP (by decide)|assumption|skip
  all_goals first
   |exact absurd ‹ee k n i=k (n-1)› ‹_›
   |exact⟨rfl,i,⟨h2,h3,h4,fun j hj=>h5 j aa⟩,cU.vals rfl⟩
   |exact r (b1 ‹_› aa) aa
   |exact r (b2 ‹_› aa) aa
   |exact r (b3 ‹¬_=k 0› ‹_› (by have:=of_decide_eq_true ‹decide _=true›;omega)) aa
   |exact⟨i+1,⟨aa,h2,h3,h4,nx (g1 ‹_› aa) aa⟩,by dsimp only;omega,cU.vals rfl⟩
   |exact⟨i+1,⟨aa,h2,h3,h4,nx (g2 ‹_› aa) aa⟩,by dsimp only;omega,cU.vals rfl⟩
   |exact⟨i+1,⟨aa,h2,h3,h4,nx (g3 ‹¬_=k 0› ‹_› (by have:=of_decide_eq_false ‹decide _=false›;omega)) aa⟩,by dsimp only;omega,cU.vals rfl⟩
 ·simp only[ah.all,aA]
  exact bK (ai1 (by have:=h1;unfold vH at this;omega) (by have:=h1;unfold vH at this;omega) (by have:=h1;unfold vH at this;omega) h2).symm
def Jn:Spec:=cq (kC (kL sJ) (kC kI kN)) (fun a=>.int .i64 (gY a.1.1 a.1.2 a.2.1)) fun a=>[a.1.1<2^40]
theorem Pd:aW P Jn yR:=ck fun⟨⟨n,k⟩,p,_⟩ K hn=>ad2 hn K
open Go Go.Am.N AV
def lS:AV->Pl
 |.agg [.agg [x,y,z],w]=>⟨⟨aL x,aL y,aL z⟩,aL w⟩
 |_=>⟨⟨0,0,0⟩,0⟩
def ki (f:Nat->AV) (n s:Nat):Prop:=∀i,i<n->bN (f i) (bh (lS (f i)) s)
abbrev bH (f:Nat->Pl) (n s:Nat):AV:=.aq 12 n (fun i=>bh (f i) s)
theorem tU {u v:Pl} {n k:Nat} (h:u=v) (hk:n<=k):bN (bh u n) (bh v k):=
 h▸b7 ⟨Ab rfl hk,bO rfl hk,trivial⟩
theorem nw {f:Nat->Pl} {n s s':Nat} (h:s<=s'):ki (fun i=>bh (f i) s) n s':=fun _ _=>tU rfl h
def uR:AV->Option (Nat×(Nat->AV))
 |.aq 12 n f=>some (n,f)
 |.nil=>some (0,fun _=>.nil)
 |_=>none
theorem YQ {v:AV} {n s:Nat} {f:Nat->AV} (h:uR v=some (n,f)) (ha:ki f n s):bN v (bH (fun i=>lS (f i)) n s):=by
 unfold uR at h
 split at h
 ·simp only[az,Prod.mk.injEq]at h
  obtain⟨rfl,rfl⟩:=h
  exact dS ha
 ·simp only[az,Prod.mk.injEq]at h
  obtain⟨rfl,rfl⟩:=h
  exact ic aa
 ·simp at h
def qV (s:Nat):Kind (Nat×(Nat->Pl)):=⟨fun v=>match uR v with
 |some (n,f)=>some ((n,fun i=>lS (f i)),[ki f n s])
 |none=>none,fun a=>bH a.2 a.1 s,fun {v a q} h hq=>by
  split at h
  ·rename_i h1
   simp only[az,Prod.mk.injEq]at h
   obtain⟨rfl,rfl⟩:=h
   exact YQ h1 hq
  ·simp at h⟩
abbrev bD (h:Pl) (s:Nat):AV:=.agg [.rat h.n.x s,.rat h.n.y s,.rat h.n.z s,.rat h.d s]
def Bw (s:Nat):Kind Pl:=⟨fun v=>match v with
 |.agg [x,y,z,w]=>match jQ x,jQ y,jQ z,jQ w with
  |some (x,a),some (y,b),some (z,c),some (w,d)=>some (⟨⟨x,y,z⟩,w⟩,[a<=s,b<=s,c<=s,d<=s])
  |_,_,_,_=>none
 |_=>none,fun a=>bD a s,fun {v a q} h hq=>by
  split at h
  ·split at h
   ·rename_i h1 h2 h3 h4
    simp only[az,Prod.mk.injEq]at h
    obtain⟨rfl,rfl⟩:=h
    exact b7 ⟨(kX h1).trans (bO rfl hq.1),(kX h2).trans (bO rfl hq.2.1),(kX h3).trans (bO rfl hq.2.2.1),(kX h4).trans (bO rfl hq.2.2.2),trivial⟩
   ·simp at h
  ·simp at h⟩
structure Cu where
 p:Int
 n:Nat
 k:Nat->Rat
 m:Nat
 f:Nat->Pl
abbrev bV (c:Cu) (s r:Nat):AV:=.agg [.int .i64 c.p,br c.k c.n s,bH c.f c.m r]
def wH (s r:Nat):Kind Cu:=⟨fun v=>match v with
 |.agg [p,k,f]=>match kI.read p,(kL s).read k,(qV r).read f with
  |some (p,q1),some ((n,k),q2),some ((m,f),q3)=>some (⟨p,n,k,m,f⟩,q1++(q2++q3))
  |_,_,_=>none
 |_=>none,fun a=>bV a s r,fun {v a q} h hq=>by
  split at h
  ·split at h
   ·rename_i h1 h2 h3
    simp only[az,Prod.mk.injEq]at h
    obtain⟨rfl,rfl⟩:=h
    obtain⟨q1,hq⟩:=dD.1 hq
    obtain⟨q2,q3⟩:=dD.1 hq
    exact b7 ⟨kI.ok h1 q1,(kL s).ok h2 q2,(qV r).ok h3 q3,trivial⟩
   ·simp at h
  ·simp at h⟩
def fW:AV->Nat
 |.aq _ n _=>n
 |_=>0
def elV:AV->Nat->AV
 |.aq _ _ f=>f
 |_=>fun _=>.nil
def jo (g:Nat->AV) (i j:Nat):Pl:=lS (elV (g i) j)
abbrev hU (f:Nat->Nat->Pl) (n m s:Nat):AV:=.aq 1 n (fun i=>bH (f i) m s)
def ec (g:Nat->AV) (n s:Nat):Prop:=∀i,i<n->bN (g i) (bH (jo g i) (fW (g 0)) s)
theorem gh {f:Nat->Nat->Pl} {n m s s':Nat} (h:s<=s'):ec (fun i=>bH (f i) m s) n s':=fun _ _=>dS fun _ _=>tU rfl h
def G8 (s:Nat):Kind (Nat×Nat×(Nat->Nat->Pl)):=⟨fun v=>match v with
 |.aq 1 n g=>some ((n,fW (g 0),jo g),[ec g n s])
 |_=>none,fun a=>hU a.2.2 a.1 a.2.1 s,fun {v a q} h hq=>by
  split at h
  ·simp only[az,Prod.mk.injEq]at h
   obtain⟨rfl,rfl⟩:=h
   exact dS hq
  ·simp at h⟩
structure Sf where
 u:Int
 v:Int
 a:Nat
 ku:Nat->Rat
 b:Nat
 kv:Nat->Rat
 n:Nat
 m:Nat
 f:Nat->Nat->Pl
abbrev aZ (x:Sf) (s r:Nat):AV:=.agg [.int .i64 x.u,.int .i64 x.v,br x.ku x.a s,br x.kv x.b s,hU x.f x.n x.m r]
def gy (s r:Nat):Kind Sf:=⟨fun v=>match v with
 |.agg [u,w,a,b,f]=>match kI.read u,kI.read w,(kL s).read a,(kL s).read b,(G8 r).read f with
  |some (u,q1),some (w,q2),some ((a,ku),q3),some ((b,kv),q4),some ((n,m,f),q5)=>some (⟨u,w,a,ku,b,kv,n,m,f⟩,q1++(q2++(q3++(q4++q5))))
  |_,_,_,_,_=>none
 |_=>none,fun a=>aZ a s r,fun {v a q} h hq=>by
  split at h
  ·split at h
   ·rename_i h1 h2 h3 h4 h5
    simp only[az,Prod.mk.injEq]at h
    obtain⟨rfl,rfl⟩:=h
    obtain⟨q1,hq⟩:=dD.1 hq
    obtain⟨q2,hq⟩:=dD.1 hq
    obtain⟨q3,hq⟩:=dD.1 hq
    obtain⟨q4,q5⟩:=dD.1 hq
    exact b7 ⟨kI.ok h1 q1,kI.ok h2 q2,(kL s).ok h3 q3,(kL s).ok h4 q4,(G8 r).ok h5 q5,trivial⟩
   ·simp at h
  ·simp at h⟩
theorem vT {rl:List (Nat×Nat)} {l i s s' s2:Nat} {x y:Nat->Pl} {t:AV} {z:AV} (hx:∀i,i<l->x i=y i) (ht:bN t (bh (y l) s')) (hk:keys t=[]) (h1:s<=s2) (h2:s'<=s2) (hi:i<l+1):
  eZ rl (if i<l then bh (x i) s else nth [t] z (i-l+0)) (bh (y i) s2):=by
 by_cases h:i<l
 ·rw[if_pos h,hx i h];exact .inr ⟨rfl,tU rfl h1⟩
 ·have:i=l:=aa
  subst this
  rw[if_neg h,Nat.sub_self]
  exact .inr ⟨hk,ht.trans (tU rfl h2)⟩
open Go Go.Am.N AV ah ax IntKind
theorem OQ:aT P Lz Gd (ay Gd):=aU Proofs.Tryz.func239 ag ag ag
theorem ab4:aT P QN KW (ay KW):=aU Proofs.Tryz.func241 ag ag ag
theorem akd:aT P wg Fk (ay Fk):=aU Proofs.Tryz.func158 ag ag ag
def Uf:bf:=[(Lz,iz T (sG::nr) [] 60 Gd)]
def IB:bf:=[(QN,iz T (sG::Uf) [] 60 KW)]
def Qk:bf:=(yq,jC kR kR Lg oU)::(Lz,iz T nY [] 60 Gd)::nY
abbrev sH:Nat:=2147483648
abbrev sE:Nat:=4294967298
def rm (h:Pl):V3:=⟨((1:Int):Rat)/h.d*h.n.x,((1:Int):Rat)/h.d*h.n.y,((1:Int):Rat)/h.d*h.n.z⟩
def Nb:Spec:=cq (kC (Bw sH) kN) (fun a=>.agg [vA (rm a.1) sE,.rat a.1.d sH]) fun _=>[]
abbrev fe (h:Pl) (s:Nat):ak:=⟨false,true,12,1,fun _=>bD h s⟩
abbrev nL:Nat:=68719476736
abbrev Jw:Nat:=137438953474
theorem alo {h:Pl} {s:Nat}:bU T Qk [] 60 Fk (ay Fk) ⟨aP 0 [bD h s],[],0⟩=
  let c9:Prop:=(0:Int)<=0;let c8:Rat:=(↑(1:Int):Rat)/h.d;let c7:Int:=(↑(4:Nat):Int);let c6:Int:=(↑(3:Nat):Int);let c4:Nat:=2^41;let c3:Int:=i64.wrap ((0:Int)+1);let c2:Nat:=Max.max 1 (bQ (Int.natAbs (1:Int)));let c1:Prop:=0<1;let c11:Int:=i64.wrap (c3+1);let c10:Prop:=(0:Int)<=3/\(3:Int)<c7;let c5:Prop:=(0:Int)<=c11/\c11<c6;some (aj [-(2:Int)^63<=(1:Int),(1:Int)<2^63,c10,c1,c2<c4,s<c4,c9/\(0:Int)<c7,c1,(0:Int)<=1/\(1:Int)<c7,c1,(0:Int)<=2/\(2:Int)<c7,c1,c1,c9/\(0:Int)<c6,c1,c2+s<c4,s<c4,c9/\(0:Int)<c6,c1,c1,(0:Int)<=c3/\c3<c6,c1,c2+s<c4,s<c4,(0:Int)<=c3/\c3<c6,c1,c1,c5,c1,c2+s<c4,s<c4,c5,c1,c1,c1,c1,c10,c1,c1] (aj [c1] (leaf ret [agg [agg [rat (c8*h.n.x) (c2+s+s),rat (c8*h.n.y) (c2+s+s),rat (c8*h.n.z) (c2+s+s)],rat h.d s]]))):=ag
theorem WW:bu P Uf:=aI (iU hT (j7 oy) hm OQ _ _) bz
theorem Tb:bu P IB:=aI (iU hT (j7 WW) hm ab4 _ _) bz
theorem ad9:bu P Qk:=aI (jY fun _ _ K hn=>HY hn.1 hn.2 K) (aI (iU hT oW hm OQ _ _) oW)
theorem Tp {h:Pl} {s s':Nat} (hs:s<2^40) (hs':1+s+s<=s') (K:Nat):aQ P wg K [bD h s] [] (aJ (.agg [vA (rm h) s',.rat h.d s]) []):=by
 refine bZ (r:=aJ (.agg [vA (rm h) s',.rat h.d s]) []) hT ad9 hm akd rfl aX rfl 60 (alo (s:=s)) (fun _=>?_) K []
 have e1:i64.wrap ((0:Int)+1)=1:=rfl
 have e2:i64.wrap ((1:Int)+1)=2:=rfl
 simp only[ah.all,aA,UN,e1,e2]
 refine⟨?_,aa,b7 ⟨b7 ⟨bO rfl aa,bO rfl aa,bO rfl aa,trivial⟩,.refl _,trivial⟩⟩
 (repeat' with_reducible refine And.intro ?_ ?_)
 all_goals omega
theorem Y9:aW P Nb wg:=ck fun⟨h,_⟩ K _=>Tp (by decide) (by decide) K
theorem anY:aT P Qd Kr (ay Kr):=aU Proofs.Tryz.func133 ag ag ag
theorem N4:aT P CY FD (ay FD):=aU Proofs.Tryz.func66 ag ag ag
abbrev ct (s:Sf):Sf:=⟨s.v,s.u,s.b,s.kv,s.a,s.ku,s.m,s.n,fun j i=>s.f i j⟩
abbrev zT:Code:=ay FD
abbrev Aq:Code:=part zT [1,1,0,1,0,0]
abbrev zN:Code:=part Aq [1,0,0]
abbrev BZ:ak:=⟨false,true,5,1,fun _=>.agg [.int .i64 0,.int .i64 0,.nil,.nil,.nil]⟩
abbrev Md:ak:=⟨false,true,3,1,fun _=>.agg [.int .i64 0,.nil,.nil]⟩
abbrev Wo (s:Sf):ak:=⟨false,true,5,1,fun _=>aZ s 2000 2000⟩
abbrev rM:List Nat:=[1,2,3,4]
abbrev Ba (j:Nat):List AV:=[.ptr 0 0 5 0 [],.ptr 1 0 5 0 [],.ptr 2 0 5 0 [],.int .i64 j]
abbrev Qb (n:Nat) (k:Nat->Rat):ak:=⟨true,true,3,n,fun i=>.rat (k i) 2000⟩
abbrev tN (s:Sf) (j:Nat):aE:=[(3,⟨true,true,1,j,fun j=>bH (fun i=>s.f i j) s.n 2000⟩),(5,Qb s.a s.ku),(4,Qb s.b s.kv),(2,⟨false,true,5,1,fun _=>.agg [.int .i64 s.v,.int .i64 s.u,.own 4 3 0 s.b,.own 5 3 0 s.a,.own 3 1 0 j]⟩),(1,BZ),(0,Wo s)]
abbrev xS:List Nat:=[1,2,3,4,5,6]
abbrev MN (j i:Nat):List AV:=Ba j++[.own 6 12 0 i,.int .i64 i]
abbrev KP (s:Sf) (j i:Nat):aE:=(6,⟨true,true,12,i,fun i=>bh (s.f i j) 2000⟩)::tN s j
theorem WT {s:Sf}:aG T [nG] [] 60 rM (before zT [1,1,0,1]) ⟨aP 0 [aZ s 2000 2000],[],0⟩=
  let c7:Nat:=(aV (aZ s 2000 2000)).size;let c6:Nat:=0+s.b;let c5:Nat:=0+s.a;let c4:AV:=int i64 0;let c3:Prop:=0*3<=2^24;let c2:Prop:=0<1;let c1:AV:=agg [c4,c4,nil,nil,nil];some (aj [c2,c2,c3,c2,c6*((56:Nat)+1)*2<=2^47,c3,c2,c5*((56:Nat)+1)*2<=2^47,c2] (leaf normal ([ptr 0 0 c7 0 [],ptr 4096 0 5 0 [],ptr 61440 0 5 0 [],c4],[(53248,ak.mk true true 3 c5 fun i=>rat (s.ku (i-0)) 2000),(36864,ak.mk true true 3 c6 fun i=>rat (s.kv (i-0)) 2000),(61440,ak.mk false true 5 1 fun j=>if(j==0)=true then aV (agg ((((c1.kids.set 0 (aV (int i64 s.v))).set 1 (aV (int i64 s.u))).set 2 (aV (own (nat_lit 36863+1) 3 0 c6))).set 3 (aV (own (nat_lit 53247+1) 3 0 c5))))else c1),(4096,ak.mk false true 5 1 fun x=>c1),(0,ak.mk false true c7 1 fun x=>aZ s 2000 2000)]))):=ag
theorem adR {s:Sf} {j:Nat}:aG T [nG] [26] 60 rM (before Aq [1,0]) ⟨aB rM (Ba j),tN s j,6⟩=
  let c1:List AV×aE:=([ptr 0 0 5 0 [],ptr 1 0 5 0 [],ptr 2 0 5 0 [],int i64 (↑j:Int)],[(3,ak.mk true true 1 j fun j=>aq 12 s.n fun i=>bh (s.f i j) 2000),(5,ak.mk true true 3 s.a fun i=>rat (s.ku i) 2000),(4,ak.mk true true 3 s.b fun i=>rat (s.kv i) 2000),(2,ak.mk false true 5 1 fun x=>agg [int i64 s.v,int i64 s.u,own 4 3 0 s.b,own 5 3 0 s.a,own 3 1 0 j]),(1,ak.mk false true 5 1 fun x=>agg [int i64 0,int i64 0,nil,nil,nil]),(0,ak.mk false true 5 1 fun x=>aZ s 2000 2000)]);some (aj [(0:Nat)<1,(0:Int)<=0/\Int.toNat (0:Int)<s.n] (fork (decide ((↑j:Int)<(↑s.m:Int))) (leaf normal c1) (leaf (exit 0) c1))):=ag
theorem Z0 {s:Sf} {j:Nat}:aG T [nG] [] 60 xS (before zN [1,0,1]) ⟨aB rM (Ba j),tN s j,6⟩=
  let c1:AV:=int i64 0;some (leaf normal ([ptr 0 0 5 0 [],ptr 1 0 5 0 [],ptr 2 0 5 0 [],int i64 (↑j:Int),nil,c1],[(3,ak.mk true true 1 j fun j=>aq 12 s.n fun i=>bh (s.f i j) 2000),(5,ak.mk true true 3 s.a fun i=>rat (s.ku i) 2000),(4,ak.mk true true 3 s.b fun i=>rat (s.kv i) 2000),(2,ak.mk false true 5 1 fun x=>agg [int i64 s.v,int i64 s.u,own 4 3 0 s.b,own 5 3 0 s.a,own 3 1 0 j]),(1,ak.mk false true 5 1 fun x=>agg [c1,c1,nil,nil,nil]),(0,ak.mk false true 5 1 fun x=>aZ s 2000 2000)])):=ag
theorem aoX {s:Sf} {j i:Nat}:aG T [nG] [33] 60 xS [part zN [1,0,1,0,0]] ⟨aB xS (MN j i),KP s j i,7⟩=
  let c11:Int:=(↑j:Int);let c10:AV:=ptr 1 0 5 0 [];let c9:AV:=ptr 0 0 5 0 [];let c8:AV:=ptr 2 0 5 0 [];let c7:Int:=(↑i:Int);let c6:AV:=rat 0 1;let c5:Nat×ak:=(4,ak.mk true true 3 s.b fun i=>rat (s.kv i) 2000);let c4:Nat×ak:=(5,ak.mk true true 3 s.a fun i=>rat (s.ku i) 2000);let c2:Nat×ak:=(3,ak.mk true true 1 j fun j=>aq 12 s.n fun i=>bh (s.f i j) 2000);let c1:List (Nat×ak):=[(2,ak.mk false true 5 1 fun x=>agg [int i64 s.v,int i64 s.u,own 4 3 0 s.b,own 5 3 0 s.a,own 3 1 0 j]),(1,ak.mk false true 5 1 fun x=>agg [int i64 0,int i64 0,nil,nil,nil]),(0,ak.mk false true 5 1 fun x=>aZ s 2000 2000)];let c12:Int:=c7+1;let c3:Pl:=s.f c7.toNat c11.toNat;some (aj [(0:Nat)<1] (fork (decide (c7<(↑s.n:Int))) (aj [(0:Nat)<1,(0:Int)<=c7/\c7.toNat<s.n,(0:Int)<=c11/\c11.toNat<s.m,(1:Nat)*12<=2^24,(i+1)*((224:Nat)+1)*2<=2^47] (aj [-(2:Int)^63<=c12/\c12<2^63] (leaf normal ([c9,c10,c8,int i64 c11,own 61447 12 0 (i+1),int i64 c12],c2::c4::c5::(61447,ak.mk true true 12 (i+1) fun i_1=>if i_1<i then bh (s.f i_1 j) 2000 else nth [bh c3 2000] (agg [agg [c6,c6,c6],c6]) (i_1-i+0))::c1)))) (leaf (exit 2) ([c9,c10,c8,int i64 c11,own 6 12 0 i,int i64 c7],c2::c4::c5::(6,ak.mk true true 12 i fun i=>bh (s.f i j) 2000)::c1)))):=ag
theorem ant {s:Sf} {j i:Nat}:aG T [nG] [] 60 rM (behind zN [1,0,1]++[part Aq [1,1]]) ⟨aB xS (MN j i),KP s j i,7⟩=
  let c2:Int:=(↑j:Int)+1;let c1:AV:=agg [int i64 s.v,int i64 s.u,own 4 3 0 s.b,own 5 3 0 s.a,own 3 1 0 j];some (aj [(0:Nat)<1,(1:Nat)*1<=2^24,(j+1)*((24:Nat)+1)*2<=2^47,(0:Nat)<1] (aj [-(2:Int)^63<=c2/\c2<2^63] (leaf normal ([ptr 0 0 5 0 [],ptr 1 0 5 0 [],ptr 2 0 5 0 [],int i64 c2],[(16391,ak.mk true true 1 (j+1) fun i_1=>if i_1<j then bH (fun i=>s.f i i_1) s.n 2000 else nth [aq 12 i fun i=>bh (s.f (i+0) j) 2000] nil (i_1-j+0)),(5,ak.mk true true 3 s.a fun i=>rat (s.ku i) 2000),(4,ak.mk true true 3 s.b fun i=>rat (s.kv i) 2000),(2,ak.mk false true 5 1 fun j_1=>if(j_1==0)=true then agg (c1.kids.set 4 (aV (own (nat_lit 16390+1) 1 0 (j+1))))else c1),(1,ak.mk false true 5 1 fun x=>agg [int i64 0,int i64 0,nil,nil,nil]),(0,ak.mk false true 5 1 fun x=>aZ s 2000 2000)])))):=ag
theorem aeV {s:Sf} {j:Nat}:cj T [nG] [] 60 FD [part zT [1,1,1]] ⟨aB rM (Ba j),tN s j,6⟩=
  let c1:Prop:=0<1;some (aj [c1,c1] (aj [c1] (leaf ret [agg [int i64 s.v,int i64 s.u,aq 3 s.b fun i=>rat (s.kv (i+0)) 2000,aq 3 s.a fun i=>rat (s.ku (i+0)) 2000,aq 1 j fun i=>aq 12 s.n fun i_1=>bh (s.f i_1 (i+0)) 2000]]))):=ag
theorem afy {s:Sf} (hn:1<=s.n) (h2:s.n<2^30) (h3:s.m<2^30) (h4:s.a<2^30) (h5:s.b<2^30) (K:Nat):aQ P CY K [aZ s 2000 2000] [] (aJ (aZ (ct s) 2000 2000) []):=by
 refine fc (r:=aJ (aZ (ct s) 2000 2000) []) hT N4 rfl aX rfl (fun _ cx h00=>?_) K []
 have hk:=gV h00
 have hv:∀{rl:List (Nat×Nat)} {a b d l m n:Nat} {u:AV},bp rl 4=some a->bp rl 5=some b->m=s.b->n=s.a->u.isTuple=false->fR (bp rl) u (.own 3 1 0 l)->eZ rl (.agg [.int .i64 s.v,.int .i64 s.u,.own a 3 0 m,.own b 3 0 n,u]) (.agg [.int .i64 s.v,.int .i64 s.u,.own 4 3 0 s.b,.own 5 3 0 s.a,.own 3 1 0 l]):=
  fun h1 h2 h3 h4 h5 h6=>gz ⟨aM,aM,⟨rfl,bW h1 rfl h3⟩,⟨rfl,bW h2 rfl h4⟩,⟨h5,h6⟩,trivial⟩
 have re:∀{j:Nat},jv 6 [(0,0),(1,1),(2,2),(3,3),(4,4),(5,5)] (tN s j) (tN s j):=
  fun {j}=>bk (bk (bk (bG rfl rfl (hv (d:=0) rfl rfl rfl rfl rfl (bW rfl rfl rfl)) (aC (aC trivial)))))
 refine au.wR hT (cz bz) hm (x:=zT) [1,1,0,1] (i:=0) (y:=Aq) (z:=part zT [1,1,1]) ag ag ag N4.dst [1,0] (j:=1) (x1:=zN) (zb:=part Aq [1,1]) ag ag ag [1,0,1] (i2:=2) (y2:=part zN [1,0,1,0,0]) ag ag rfl
  hk (f1:=[]) (f2:=[26]) (f3:=[]) (f4:=[33]) (f5:=[]) 60 rM xS 6 7 (fun j:Nat=>Ba j) (fun j=>tN s j) (fun j=>j<=s.m) (fun j=>j=s.m) (fun j=>s.m-j) (fun j=>j<s.m) (fun _=>False) (fun _=>False)
  (fun j (i:Nat)=>MN j i) (fun j i=>KP s j i) (fun _ i=>i<=s.n) (fun _ i=>i=s.n) (fun _ i=>s.n-i) ⟨_,WT,?_⟩ (fun j hj=>⟨_,adR,?_⟩) (fun j hj hg=>⟨_,Z0,?_⟩) (fun j hj hg i hi=>⟨_,aoX,?_⟩) (fun j hj hg i hi=>⟨_,ant,?_⟩) (fun j hj=>?_) (fun _ _ h=>h.elim) (fun _ _ h=>h.elim)
 all_goals try simp only[ah.all,aA,bq,bw,bn,Nat.add_zero]
 ·exact⟨aa,0,Nat.zero_le _,[(0,0),(1,4096),(2,61440),(4,36864),(5,53248)],rfl,rfl,rfl,fV rfl aa aa (bJ rfl rfl (Nat.zero_add _) (fun _ _=>cB rfl rfl) (bJ rfl rfl (Nat.zero_add _) (fun _ _=>cB rfl rfl)
   (bG rfl rfl (hv (d:=0) rfl rfl (Nat.zero_add _) (Nat.zero_add _) rfl (jd aa)) (aC (aC trivial)))))⟩
 ·exact⟨aa,fun h=>⟨aa,_,rfl,rfl,rfl,re⟩,fun h=>⟨rfl,j,aa,_,rfl,rfl,rfl,re⟩⟩
 ·exact⟨0,Nat.zero_le _,[(0,0),(1,1),(2,2),(3,3),(4,4),(5,5)],rfl,rfl,rfl,fV rfl aa aa (bk (bk (bk (bG rfl rfl (hv (d:=0) rfl rfl rfl rfl rfl (bW rfl rfl rfl)) (aC (aC trivial))))))⟩
 ·refine⟨aa,fun h=>⟨aa,aa,i+1,aa,by dsimp only;omega,[(0,0),(1,1),(2,2),(3,3),(4,4),(5,5),(6,61447)],rfl,rfl,rfl,bJ rfl rfl rfl (fun k hk=>vT (y:=fun i=>s.f i j) (fun _ _=>rfl) (.refl _) rfl aY aY hk) ?_⟩,
   fun h=>⟨rfl,i,aa,[(0,0),(1,1),(2,2),(3,3),(4,4),(5,5),(6,6)],rfl,rfl,rfl,bk ?_⟩⟩
  all_goals exact bk (bk (bk (bG rfl rfl (hv (d:=0) rfl rfl rfl rfl rfl (bW rfl rfl rfl)) (aC (aC trivial)))))
 ·subst hi
  refine⟨aa,aa,j+1,aa,by dsimp only;omega,[(0,0),(1,1),(2,2),(3,16391),(4,4),(5,5)],rfl,rfl,rfl,bJ rfl rfl rfl (fun k hk=>?_) (bk (bk (bG rfl rfl (hv (d:=0) rfl rfl rfl rfl rfl (bW rfl rfl rfl)) (aC (aC trivial)))))⟩
  by_cases h:k<j
  ·rw[if_pos h];exact cB rfl rfl
  ·have:k=j:=aa
   subst this
   rw[if_neg h,Nat.sub_self];exact cB rfl rfl
 ·subst hj
  refine au.gr ((aH.fin hT (cz bz) hm 60 aeV ag ?_).mono fun _ _ h=>.inl h)
  simp only[ah.all,aA]
  exact⟨aa,aa,.refl _⟩
def T6:Spec:=cq (kC (gy 2000 2000) kN) (fun a=>aZ (ct a.1) 2000 2000) fun a=>[1<=a.1.n,a.1.n<2^30,a.1.m<2^30,a.1.a<2^30,a.1.b<2^30]
structure BN (s:Sf):Prop where
 ku:Kn s.a s.u.toNat s.ku
 kv:Kn s.b s.v.toNat s.kv
 u0:0<=s.u
 u6:s.u<=6
 v0:0<=s.v
 v6:s.v<=6
 a:s.a<2^30
 b:s.b<2^30
 n:(s.n:Int)=(s.a:Int)-s.u-1
 m:(s.m:Int)=(s.b:Int)-s.v-1
theorem ajj:aW P T6 CY:=ck fun⟨s,_⟩ K hn=>afy hn.1 hn.2.1 hn.2.2.1 hn.2.2.2.1 hn.2.2.2.2 K
theorem ah5:aT P Pk MO (ay MO):=aU Proofs.Tryz.func182 ag ag ag
theorem XL:aT P qJ ES (ay ES):=aU Proofs.Tryz.func154 ag ag ag
theorem NP:aT P xe xk (ay xk):=aU Proofs.Tryz.func153 ag ag ag
def cP (p:Pl):Pl:=⟨⟨p.d*p.n.x,p.d*p.n.y,p.d*p.n.z⟩,p.d⟩
def dU (h:Pl):Pl:=⟨⟨h.n.x/h.d,h.n.y/h.d,h.n.z/h.d⟩,h.d⟩
abbrev pU (f:Nat->Pl) (n s:Nat):AV:=.aq 12 n (fun i=>bD (f i) s)
abbrev dY (c:Cu) (s r:Nat):AV:=.agg [.int .i64 c.p,br c.k c.n s,pU c.f c.m r]
def Q0:bf:=nG::iR
def OG:bf:=nG::(zL,jC kR kR C3 r6)::iR
def SO (f:Nat->Pl) (x:Nat->Rat) (b j:Nat):Pl:=
 ⟨⟨x6 j fun j=>x j*(f (b+j)).n.x,x6 j fun j=>x j*(f (b+j)).n.y,x6 j fun j=>x j*(f (b+j)).n.z⟩,x6 j fun j=>x j*(f (b+j)).d⟩
def FV:bf:=nG::(Dm,Q5)::iR
abbrev zn:List Nat:=[4,5,2,6,7,36,37,38]
abbrev C7 (p i:Nat) (x:Nat->Rat) (j:Nat):List AV:=[.ptr 1 0 12 0 [],.int .i64 0,.ptr 0 0 3 0 [],.ptr 2 0 12 0 [],.int .i64 ((i:Int)-p),.aq 3 (p+1) (fun j=>.rat (x j) sV),.int .i64 ((p+1:Nat):Int),.int .i64 j]
abbrev qS (c:Cu) (r:Nat):ak:=⟨false,true,3,1,fun _=>dY c sK r⟩
abbrev u7:Code:=ay xk
def ux:AV->Pl
 |.agg [x,y,z,w]=>⟨⟨aL x,aL y,aL z⟩,aL w⟩
 |_=>⟨⟨0,0,0⟩,0⟩
def mA (f:Nat->AV) (n s:Nat):Prop:=∀i,i<n->bN (f i) (bD (ux (f i)) s)
theorem aeT {v:AV} {n s:Nat} {f:Nat->AV} (h:uR v=some (n,f)) (ha:mA f n s):bN v (pU (fun i=>ux (f i)) n s):=by
 unfold uR at h
 split at h
 ·simp only[az,Prod.mk.injEq]at h
  obtain⟨rfl,rfl⟩:=h
  exact dS ha
 ·simp only[az,Prod.mk.injEq]at h
  obtain⟨rfl,rfl⟩:=h
  exact ic aa
 ·simp at h
theorem acC {h:Pl} {s:Nat}:bU T OG [] 80 ES (ay ES) ⟨aP 0 [bD h s],[],0⟩=
  let c8:Int:=(↑(3:Nat):Int);let c7:Int:=(↑(4:Nat):Int);let c5:Int:=(2:Int)^63;let c4:Prop:=s<2^42;let c2:Prop:=0<1;let c1:Int:=(0:Int)+1;let c6:Int:=c1+1;let c3:Prop:=(0:Int)<=3/\(3:Int)<c7;some (aj [c3,c2,c4,(1:Nat)<2^42,c2] (aj [(0:Int)<=0/\(0:Int)<c7,c2,c3,c2,c4,c4,(0:Int)<=0/\(0:Int)<c8,c2] (aj [-c5<=c1/\c1<c5] (aj [(0:Int)<=c1/\c1<c7,c2,c3,c2,c4,c4,(0:Int)<=c1/\c1<c8,c2] (aj [-c5<=c6/\c6<c5] (aj [(0:Int)<=c6/\c6<c7,c2,c3,c2,c4,c4,(0:Int)<=c6/\c6<c8,c2] (aj [-c5<=c6+1/\c6+1<c5] (aj [c2,c2] (aj [c2] (leaf ret [agg [agg [rat (h.n.x/h.d) (s+s),rat (h.n.y/h.d) (s+s),rat (h.n.z/h.d) (s+s)],rat (h.d+0) (s+1+1)]])))))))))):=ag
theorem aoR {c:Cu} {r:Nat} {t:Rat}:aG T FV [25,34] 60 zn (before u7 [1,1,1,1,0,1]) ⟨aP 0 [dY c sK r,.rat t sK],[],0⟩=
  let c16:Nat:=cM c.n (fun i=>aL (rat (c.k i) sK)) t;let c15:Prop:=dI c.n (fun i=>aL (rat (c.k i) sK)) t;let c14:AV:=ptr 8192 0 12 0 [];let c13:AV:=ptr 16384 0 12 0 [];let c12:AV:=ptr 0 0 (aV (dY c sK r)).size 0 [];let c11:AV:=rat 0 1;let c10:Prop:=0<1;let c8:Bool:=cX c.n (fun i=>aL (rat (c.k i) sK)) t !=(0:Int);let c6:Nat×ak:=(0,ak.mk false true (aV (dY c sK r)).size 1 fun x=>agg [int i64 c.p,aq 3 c.n fun i=>rat (c.k i) 4096,aq 12 c.m fun i=>bD (c.f i) r]);let c7:Nat:=if c15 then 0 else c.p.toNat+1;let c5:Int:=if c15 then(0:Int)else(↑c16:Int)-(↑c.p.toNat:Int);let c4:AV:=agg [c11,c11,c11,c11];let c9:ak:=ak.mk false true 12 1 fun x=>c4;let c3:Int:=c5+(↑c7:Int);let c2:ah (List AV×aE):=leaf normal ([c14,int i64 0,c12,c13,int i64 c5,aq 3 c7 fun j=>rat (vB (fun i=>aL (rat (c.k i) sK)) c16 t c.p.toNat j) 268435456,int i64 (↑c7:Int),int i64 0],[((16384:Nat),c9),c6,((8192:Nat),c9)]);let c1:ah (List AV×aE):=aj [c10] (leaf ret ([c14,int i64 7,c12,c13,int i64 c5,tuple [],tuple [],tuple []],[((16384:Nat),c9),c6,(8192,ak.mk false true 12 1 fun j=>if(j==0)=true then aV (agg c4.kids)else c4)]));some (aj [c10,c10,c10,bt (fun i=>rat (c.k i) sK) c.n sK,sK<=sK,Kn c.n c.p.toNat fun i=>aL (rat (c.k i) sK),(0:Int)<=c.p,c.p<=6,c.n<2^40] (fork c8 (aj [c8=true] (fork true c1 c2)) (aj [c8=false,-(2:Int)^63<=c3/\c3<2^63,c10] (fork (bif false then true else decide (c3>(↑c.m:Int))) c1 c2)))):=ag
theorem ae0 {c:Cu} {h:Pl} {p i j s r:Nat} {x:Nat->Rat}:aG T FV [39] 60 zn [part u7 [1,1,1,1,0,1,0,0]] ⟨aB zn (C7 p i x j),[(2,fe h s),(1,fe ⟨⟨0,0,0⟩,0⟩ 1),(0,qS c r)],3⟩=
  let c29:Int:=(↑i:Int)-(↑p:Int);let c26:AV:=ptr 0 0 3 0 [];let c24:AV:=ptr 2 0 12 0 [];let c23:AV:=ptr 1 0 12 0 [];let c21:AV:=rat 0 1;let c20:Int:=(↑(p+1):Int);let c19:AV:=aq 3 (p+1) fun j=>rat (x j) 268435456;let c16:Int:=(↑j:Int);let c15:Bool:=0==0;let c10:Int:=(↑(4:Nat):Int);let c9:Int:=(0:Int)+1;let c8:Nat:=2^42;let c7:Prop:=0<1;let c6:Int:=(2:Int)^63;let c33:Prop:=sV+r<c8;let c32:Rat:=x c16.toNat;let c31:Int:=c16+1;let c28:Prop:=(0:Int)<=c9/\c9<c10;let c18:Prop:=(0:Int)<=0/\(0:Int)<c10;let c4:List (Nat×ak):=[((0:Nat),aS fun x=>agg [int i64 c.p,aq 3 c.n fun i=>rat (c.k i) 4096,aq 12 c.m fun i=>bD (c.f i) r]),(1,ak.mk false true 12 1 fun x=>agg [c21,c21,c21,c21])];let c3:Int:=c9+1;let c2:Int:=c29+c16;let c30:Pl:=c.f c2.toNat;let c27:Prop:=(0:Int)<=c3/\c3<c10;let c25:Prop:=-c6<=c2/\c2<c6;let c17:Prop:=(0:Int)<=c2/\c2.toNat<c.m;let c12:Int:=c3+1;let c22:Prop:=(0:Int)<=c12/\c12<c10;let c11:AV:=agg ((bD h s).kids.set (Int.toNat (0:Int)) (aV (lH (h.n.x,s) (c32*c30.n.x,sV+r))));let c5:AV:=if c15=true then c11 else bD h s;let c13:AV:=agg (c5.kids.set c9.toNat (aV (lH (h.n.y,s) (c32*c30.n.y,sV+r))));let c1:AV:=if c15=true then c13 else c5;let c14:AV:=agg (c1.kids.set c3.toNat (aV (lH (h.n.z,s) (c32*c30.n.z,sV+r))));some (fork (decide (c16<c20)) (aj [(0:Int)<=c16/\c16.toNat<p+1,c7] (aj [c18,c7,c7,c7,c25,c17,c18,sV<c8,r<c8,s<c8,c33,c18,c7] (aj [-c6<=c9/\c9<c6] (aj [c28,c7,c7,c7,c25,c17,c28,sV<c8,r<c8,s<c8,c33,c28,c7] (aj [-c6<=c3/\c3<c6] (aj [c27,c7,c7,c7,c25,c17,c27,sV<c8,r<c8,s<c8,c33,c27,c7] (aj [-c6<=c12/\c12<c6] (aj [c22,c7,c7,c7,c25,c17,c22,sV<c8,r<c8,s<c8,c33,c22,c7] (aj [-c6<=c12+1/\c12+1<c6] (aj [-c6<=c31/\c31<c6] (leaf normal ([c23,int i64 0,c26,c24,int i64 c29,c19,int i64 c20,int i64 c31],(2,ak.mk false true 12 1 fun j=>if(j==0)=true then agg ((if c15=true then c14 else c1).kids.set c12.toNat (aV (lH (h.d,s) (c32*c30.d,sV+r))))else if(j==0)=true then c14 else if(j==0)=true then c13 else if(j==0)=true then c11 else bD h s)::c4)))))))))))) (leaf (exit 0) ([c23,int i64 0,c26,c24,int i64 c29,c19,int i64 c20,int i64 c16],(2,ak.mk false true 12 1 fun x=>bD h s)::c4))):=ag
theorem ahl {c:Cu} {h:Pl} {p i j s r:Nat} {x:Nat->Rat}:cj T FV [] 60 xk [part u7 [1,1,1,1,1]] ⟨aB zn (C7 p i x j),[(2,fe h s),(1,fe ⟨⟨0,0,0⟩,0⟩ 1),(0,qS c r)],3⟩=
  let c1:Prop:=0<1;some (aj [c1,c1] (aj [c1] (leaf ret [bD h s,int i64 0]))):=ag
theorem Zo:bu P Q0:=cz jU
theorem VV:bu P OG:=cz (aI (jY fun _ _ K hn=>Lh hn.1 hn.2 K) jU)
theorem U7:bu P FV:=cz (aI amI jU)
theorem pM {rl:List (Nat×Nat)} {l i:Nat} {f g:Nat->AV} {v z:AV} (hf:∀i,i<l->f i=g i/\keys (f i)=[]) (hk:keys v=[]) (hv:bN v (g l)) (hi:i<l+1):eZ rl (if i<l then f i else nth [v] z (i-l+0)) (g i):=by
 by_cases h:i<l
 ·rw[if_pos h];exact cB (hf i h).2 (hf i h).1
 ·have:i=l:=aa
  subst this
  rw[if_neg h,Nat.sub_self]
  exact .inr ⟨hk,hv⟩
theorem qP {rl:List (Nat×Nat)} {p:Int} {v:AV} {a b i:Nat} (hv:keys v=[]) (ht:v.isTuple=false) (h:bp rl b=some a):eZ rl (.agg [.int .i64 p,v,.own a 12 0 i]) (.agg [.int .i64 p,v,.own b 12 0 i]):=
 gz ⟨aM,⟨ht,gm hv⟩,⟨rfl,bW h rfl rfl⟩,trivial⟩
theorem qO {h h':Pl} {s s':Nat} (e:h=h') (hs:s<=s'):bN (bD h s) (bD h' s'):=e▸b7 ⟨bO rfl hs,bO rfl hs,bO rfl hs,bO rfl hs,trivial⟩
theorem LR {h:Pl} {s w:Nat} (hs:s<2^40) (h1:s+s<=w) (h2:s+2<=w) (K:Nat):aQ P qJ K [bD h s] [] (aJ (bh (dU h) w) []):=by
 refine bZ (r:=aJ (bh (dU h) w) []) hT VV hm XL rfl aX rfl 80 acC (fun _=>?_) K []
 simp only[ah.all,aA]
 (repeat' with_reducible refine And.intro ?_ ?_)
 all_goals first|omega|skip
 exact b7 ⟨b7 ⟨bO rfl h1,bO rfl h1,bO rfl h1,trivial⟩,bO (Rat.add_zero _) aa,trivial⟩
theorem aoy {c:Cu} {r:Nat}:jt T xk .ret ⟨aB [4,5,2,6] [.ptr 8192 0 12 0 [],.int .i64 7,.ptr 0 0 3 0 [],.ptr 16384 0 12 0 []],[(16384,⟨false,true,12,1,fun _=>.agg [.rat 0 1,.rat 0 1,.rat 0 1,.rat 0 1]⟩),(0,qS c r),(8192,⟨false,true,12,1,fun j=>if(j==0)=true then aV (.agg (AV.kids (.agg [.rat 0 1,.rat 0 1,.rat 0 1,.rat 0 1])))else .agg [.rat 0 1,.rat 0 1,.rat 0 1,.rat 0 1]⟩)],16385⟩=
  let c1:AV:=rat 0 1;some (aj [(0:Nat)<1] (leaf ret [agg [c1,c1,c1,c1],int i64 7])):=ag
def gu (c:Cu) (t:Rat):Pl:=if dI c.n c.k t then⟨⟨0,0,0⟩,0⟩else SO c.f (vB c.k (cM c.n c.k t) t c.p.toNat) (cM c.n c.k t-c.p.toNat) (c.p.toNat+1)
theorem Sb {c:Cu} {t:Rat} {r s:Nat} (hr:1+7*(sV+r+1)<=s) (hs:s<2^40) (hk:Kn c.n c.p.toNat c.k) (h0:0<=c.p) (h6:c.p<=6) (hn:c.n<2^40) (hm2:(c.m:Int)=(c.n:Int)-c.p-1) (K:Nat):aQ P xe K [dY c sK r,.rat t sK] [] (aJ (.tuple [bD (gu c t) s,.int .i64 (cX c.n c.k t)]) []):=by
 refine fc (r:=aJ (.tuple [bD (gu c t) s,.int .i64 (cX c.n c.k t)]) []) hT NP rfl aX rfl (fun _ cx h00=>?_) K []
 have hkp:=gV h00
 obtain⟨q,hq⟩:∃q,q=c.p.toNat:=⟨_,rfl⟩
 have hq2:c.p=(q:Int):=aa
 obtain⟨i,hi⟩:∃i,i=cM c.n c.k t:=⟨_,rfl⟩
 obtain⟨x,hx⟩:∃x,x=vB c.k i t q:=⟨_,rfl⟩
 have h1:sK=4096:=rfl
 have h2:sV=268435456:=rfl
 have z0:1+0*(sV+r+1)=1:=aa
 have zle:∀j,j<=7->1+j*(sV+r+1)<=s:=fun j hj=>by
  have:=Nat.mul_le_mul_right (sV+r+1) hj
  omega
 refine au.j4 hT U7 hm (x:=u7) [1,1,1,1,0,1] (i:=0) (y:=part u7 [1,1,1,1,0,1,0,0]) (z:=part u7 [1,1,1,1,1]) ag ag ag NP.dst hkp (f1:=[25,34]) (f2:=[39]) 60 zn 3 (fun j:Nat=>C7 q i x j) (fun j=>[(2,fe (SO c.f x (i-q) j) (1+j*(sV+r+1))),(1,fe ⟨⟨0,0,0⟩,0⟩ 1),(0,qS c r)])
  (fun j=>j<=q+1/\¬dI c.n c.k t) (fun j=>j=q+1/\¬dI c.n c.k t) (fun j=>q+1-j) (ou T xk [4,5,2,6] (.tuple [bD (gu c t) s,.int .i64 (cX c.n c.k t)])) ⟨_,aoR,?_⟩ (fun j ⟨hj,hin⟩=>⟨_,ae0,?_⟩) (fun j ⟨hj,hin⟩=>?_) (fun v s' hv hs'=>hv.fin (L1:=[7,36,37,38]) hkp hs')
 ·simp only[ah.all,aA,xE,bne_iff_ne,ne_eq,bne_eq_false_iff_eq]
  have hko:dI c.n (fun i=>c.k i) t=dI c.n c.k t:=rfl
  have hkE:cX c.n (fun i=>c.k i) t=cX c.n c.k t:=rfl
  have hkI:cM c.n (fun i=>c.k i) t=cM c.n c.k t:=rfl
  simp only[hko,hkE,hkI]
  refine⟨⟨aa,aa,aa,bP aY,aY,hk,h0,h6,hn⟩,fun hout=>⟨hout,fun _=>⟨aa,?_⟩,fun h=>absurd h (by decide)⟩,fun he=>?_⟩
  ·have ho:=B2 hout
   refine⟨[_,_,_,_],_,16385,_,rfl,rfl,rfl,aoy,rfl,⟨⟨aa,fun i _=>rfl⟩,⟨aa,fun i _=>rfl⟩,⟨aa,fun i _=>nQ rfl rfl⟩,trivial⟩,Nat.zero_lt_one,?_⟩
   exact⟨qO (h:=⟨⟨0,0,0⟩,0⟩) (by unfold gu;rw[if_pos ho]) aa,bK (by unfold cX;rw[if_pos ho]),trivial⟩
  ·have hin:=BL he
   have hiv:=hk.IC hin
   simp only[if_neg hin]
   refine⟨⟨he,aa,aa⟩,fun h=>?_,fun _=>⟨0,⟨Nat.zero_le _,hin⟩,[(0,0),(1,8192),(2,16384)],rfl,?_,rfl,bG rfl rfl (cB rfl (by rw[z0];rfl)) (aC (aC trivial))⟩⟩
   ·exfalso
    rw[cond_false,bq]at h
    omega
   ·show _=(C7 q i x 0).map _
    rw[hx,hq,hi];rfl
 ·have hiv:=hk.IC hin
  rw[<-hi,<-hq]at hiv
  simp only[ah.all,aA,bq,bw,show((i:Int)-q+j).toNat=i-q+j by omega,bn]
  refine⟨fun h=>?_,fun h=>⟨rfl,j,⟨aa,hin⟩,[(0,0),(1,1),(2,2)],rfl,rfl,rfl,aC (aC (aC trivial))⟩⟩
  have hz:=zle j aa
  have hzS:1+(j+1)*(sV+r+1)=1+j*(sV+r+1)+(sV+r+1):=by rw[Nat.add_mul,Nat.one_mul];omega
  have hz2:=zle (j+1) aa
  generalize 1+j*(sV+r+1)=zj at*
  (repeat' with_reducible refine And.intro ?_ ?_)
  all_goals first|omega|skip
  exact⟨j+1,⟨aa,hin⟩,by dsimp only;omega,[(0,0),(1,1),(2,2)],rfl,rfl,rfl,bG rfl rfl (.inr ⟨rfl,b7 ⟨bO rfl aa,bO rfl aa,bO rfl aa,bO rfl aa,trivial⟩⟩) (aC (aC trivial))⟩
 ·subst hj
  refine au.gr ((aH.fin hT U7 hm 60 ahl ag ?_).mono fun _ _ h=>.inl h)
  simp only[ah.all,aA]
  have hz:=zle (q+1) aa
  refine⟨aa,aa,?_,bK (by unfold cX;rw[if_neg hin]),trivial⟩
  exact qO (by unfold gu;rw[if_neg hin,<-hi,<-hq,<-hx]) hz
def sA (s r:Nat):Kind Cu:=⟨fun v=>match v with
 |.agg [p,k,f]=>match kI.read p,(kL s).read k,uR f with
  |some (p,q1),some ((n,k),q2),some (m,f)=>some (⟨p,n,k,m,fun i=>ux (f i)⟩,q1++(q2++[mA f m r]))
  |_,_,_=>none
 |_=>none,fun a=>dY a s r,fun {v a q} h hq=>by
  split at h
  ·split at h
   ·rename_i h1 h2 h3
    simp only[az,Prod.mk.injEq]at h
    obtain⟨rfl,rfl⟩:=h
    obtain⟨q1,hq⟩:=dD.1 hq
    obtain⟨q2,q3⟩:=dD.1 hq
    exact b7 ⟨kI.ok h1 q1,(kL s).ok h2 q2,aeT h3 q3,trivial⟩
   ·simp at h
  ·simp at h⟩
def Tx:Spec:=cq (kC (sA sK (sJ+sJ)) (kC (gN sK) kN)) (fun a=>.tuple [bD (gu a.1 a.2.1) sH,.int .i64 (cX a.1.n a.1.k a.2.1)]) fun a=>[Kn a.1.n a.1.p.toNat a.1.k,0<=a.1.p,a.1.p<=6,a.1.n<2^40,(a.1.m:Int)=(a.1.n:Int)-a.1.p-1]
def PW:Spec:=cq (kC (Bw sH) kN) (fun a=>bh (dU a.1) sE) fun _=>[]
def kJ (c:Cu):Prop:=Kn c.n c.p.toNat c.k/\1<=c.p/\c.p<=6/\c.n<=c.p.toNat+41/\(c.m:Int)=(c.n:Int)-c.p-1
theorem aaC:aW P Tx xe:=ck fun⟨c,t,_⟩ K hn=>Sb (by decide) (by decide) hn.1 hn.2.1 hn.2.2.1 hn.2.2.2.1 hn.2.2.2.2 K
theorem ad7:aW P PW qJ:=ck fun⟨h,_⟩ K _=>LR (by decide) (by decide) (by decide) K
theorem div_one {a b:Rat}:a/b=((1:Int):Rat)/b*a:=by
 rw[Rat.div_def,Rat.div_def,show((1:Int):Rat)=1 from rfl,Rat.one_mul,Rat.mul_comm]
theorem F4 {h:Pl}:(dU h).n=rm h:=by
 show V3.mk (h.n.x/h.d) (h.n.y/h.d) (h.n.z/h.d)=V3.mk _ _ _
 rw[div_one (a:=h.n.x),div_one (a:=h.n.y),div_one (a:=h.n.z)]
theorem It:aT P ua wG (ay wG):=aU Proofs.Tryz.func164 ag ag ag
theorem Vf:aT P Ag Gb (ay Gb):=aU Proofs.Tryz.func218 ag ag ag
abbrev Aa:Code:=ay wG
abbrev zk:Code:=part Aa [1,1,1,0,1,0,0]
abbrev yt:Code:=part zk [1,1,0,0]
abbrev ud:List Nat:=[2,0,3,13,14]
abbrev Gh (f:Nat->Nat->Pl) (n m r j:Nat):List AV:=[.nil,hU f n m r,.own 0 1 0 j,.int .i64 m,.int .i64 j]
abbrev yK:List Nat:=[2,0,3,13,14,4,5,18,19]
abbrev Jq (f:Nat->Nat->Pl) (n m r j i:Nat):List AV:=[.nil,hU f n m r,.own 0 1 0 j,.int .i64 m,.int .i64 j,.int .i64 j,.own 1 12 0 i,.int .i64 n,.int .i64 i]
abbrev xW (f:Nat->Nat->Pl) (n r j:Nat):aE:=[(0,⟨true,true,1,j,fun j=>bH (fun i=>f i j) n r⟩)]
abbrev MA (f:Nat->Nat->Pl) (n r j i:Nat):aE:=(1,⟨true,true,12,i,fun i=>bh (f i j) r⟩)::xW f n r j
def cC (s:Sf) (j:Nat):Cu:=⟨s.u,s.a,s.ku,s.n,fun i=>cP (s.f i j)⟩
abbrev k9 (s:Sf) (n:Nat):AV:=.aq 3 n (fun j=>dY (cC s j) 2000 (4000))
def sk:AV->Nat
 |.aq _ _ g=>(match g 0 with
  |.agg (.agg (.rat _ r::_)::_)=>r
  |_=>1)
 |_=>1
def WZ:Kind ((Nat×Nat×(Nat->Nat->Pl))×Nat):=⟨fun v=>match v with
 |.aq 1 n g=>some (((n,fW (g 0),jo g),sk (g 0)),[ec g n (sk (g 0))])
 |_=>none,fun a=>hU a.1.2.2 a.1.1 a.1.2.1 a.2,fun {v a q} h hq=>by
  split at h
  ·simp only[az,Prod.mk.injEq]at h
   obtain⟨rfl,rfl⟩:=h
   exact dS hq
  ·simp at h⟩
def EB:Spec:=cq (kC WZ kN) (fun a=>hU (fun j i=>a.1.1.2.2 i j) a.1.1.2.1 a.1.1.1 a.1.2) fun a=>[a.1.1.1=0->a.1.1.2.1=0,a.1.1.1<2^28,a.1.1.2.1<2^28]
def tq:bf:=nG::(ua,EB)::(Pk,iz T Q0 [] 80 MO)::iR
abbrev AO:Code:=ay Gb
abbrev AR:Code:=part AO [1,1,0,1,0,0]
abbrev ya:Code:=part AR [1,1,0,0]
abbrev uk:List Nat:=[2,1,3,11,12,13]
abbrev Ci (s:Sf) (j:Nat):List AV:=[.nil,.ptr 0 0 5 0 [],.own 1 3 0 j,hU (fun j i=>s.f i j) s.m s.n 2000,.int .i64 s.m,.int .i64 j]
abbrev yl:List Nat:=[2,1,3,11,12,13,6,22,23,24]
abbrev LD (s:Sf) (j i:Nat):List AV:=[.nil,.ptr 0 0 5 0 [],.own 1 3 0 j,hU (fun j i=>s.f i j) s.m s.n 2000,.int .i64 s.m,.int .i64 j,.ptr 2 0 3 0 [],bH (fun i=>s.f i j) s.n 2000,.int .i64 s.n,.int .i64 i]
abbrev z6 (s:Sf) (j:Nat):aE:=[(1,⟨true,true,3,j,fun j=>dY (cC s j) 2000 (4000)⟩),(0,⟨false,true,5,1,fun _=>aZ s 2000 2000⟩)]
abbrev KF (s:Sf) (j i:Nat):aE:=(3,⟨true,true,12,i,fun i=>bD (cP (s.f i j)) (4000)⟩)::(2,⟨false,true,3,1,fun _=>.agg [.int .i64 s.u,br s.ku s.a 2000,.own 3 12 0 i]⟩)::z6 s j
theorem amS {n m r:Nat} {f:Nat->Nat->Pl}:aG T [nG] [200009] 60 ud (before Aa [1,1,1,0,1]) ⟨aP 0 [hU f n m r],[],0⟩=
  some (aj [((↑n:Int)==0)=false] (aj [(0:Int)<=0/\Int.toNat (0:Int)<n] (leaf normal ([nil,aq 1 n fun i=>aq 12 m fun i_1=>bh (f i i_1) r,nil,int i64 (↑m:Int),int i64 0],[])))):=ag
theorem abd {n m r j:Nat} {f:Nat->Nat->Pl}:aG T [nG] [15] 60 ud (before zk [1,1,0]) ⟨aB ud (Gh f n m r j),xW f n r j,1⟩=
  let c1:List AV×aE:=([nil,aq 1 n fun i=>aq 12 m fun i_1=>bh (f i i_1) r,own 0 1 0 j,int i64 (↑m:Int),int i64 (↑j:Int)],[(0,ak.mk true true 1 j fun j=>aq 12 n fun i=>bh (f i j) r)]);some (fork (decide ((↑j:Int)<(↑m:Int))) (leaf normal c1) (leaf (exit 0) c1)):=ag
theorem ajp {n m r j:Nat} {f:Nat->Nat->Pl}:aG T [nG] [] 60 yK (before yt [1,1,0,1]) ⟨aB ud (Gh f n m r j),xW f n r j,1⟩=
  some (leaf normal ([nil,aq 1 n fun i=>aq 12 m fun i_1=>bh (f i i_1) r,own 0 1 0 j,int i64 (↑m:Int),int i64 (↑j:Int),int i64 (↑j:Int),nil,int i64 (↑n:Int),int i64 0],[(0,ak.mk true true 1 j fun j=>aq 12 n fun i=>bh (f i j) r)])):=ag
theorem V5 {n m r j i:Nat} {f:Nat->Nat->Pl}:aG T [nG] [20] 60 yK [part yt [1,1,0,1,0,0]] ⟨aB yK (Jq f n m r j i),MA f n r j i,2⟩=
  let c10:Int:=(↑n:Int);let c9:Int:=(↑j:Int);let c7:AV:=own 0 1 0 j;let c5:Int:=(↑i:Int);let c4:AV:=rat 0 1;let c2:AV:=aq 1 n fun i=>aq 12 m fun i_1=>bh (f i i_1) r;let c1:Nat×ak:=(0,ak.mk true true 1 j fun j=>aq 12 n fun i=>bh (f i j) r);let c8:Int:=c5+1;let c6:AV:=int i64 c9;let c3:Pl:=f c5.toNat c9.toNat;some (fork (decide (c5<c10)) (aj [(0:Int)<=c5/\c5.toNat<n,(0:Int)<=c9/\c9.toNat<m,(1:Nat)*12<=2^24,(i+1)*((224:Nat)+1)*2<=2^47] (aj [-(2:Int)^63<=c8/\c8<2^63] (leaf normal ([nil,c2,c7,int i64 (↑m:Int),c6,c6,own 49154 12 0 (i+1),int i64 c10,int i64 c8],[(49154,ak.mk true true 12 (i+1) fun i_1=>if i_1<i then bh (f i_1 j) r else nth [bh c3 r] (agg [agg [c4,c4,c4],c4]) (i_1-i+0)),c1])))) (leaf (exit 2) ([nil,c2,c7,int i64 (↑m:Int),c6,c6,own 1 12 0 i,int i64 c10,int i64 c5],[(1,ak.mk true true 12 i fun i=>bh (f i j) r),c1]))):=ag
theorem adk {n m r j i:Nat} {f:Nat->Nat->Pl}:aG T [nG] [] 60 ud (behind yt [1,1,0,1]++[part zk [1,1,1]]) ⟨aB yK (Jq f n m r j i),MA f n r j i,2⟩=
  let c1:Int:=(↑j:Int)+1;some (aj [(1:Nat)*1<=2^24,(j+1)*((24:Nat)+1)*2<=2^47] (aj [-(2:Int)^63<=c1/\c1<2^63] (leaf normal ([nil,aq 1 n fun i=>aq 12 m fun i_1=>bh (f i i_1) r,own 12290 1 0 (j+1),int i64 (↑m:Int),int i64 c1],[(12290,ak.mk true true 1 (j+1) fun i_1=>if i_1<j then bH (fun i=>f i i_1) n r else nth [aq 12 i fun i=>bh (f (i+0) j) r] nil (i_1-j+0))])))):=ag
theorem amq {n m r j:Nat} {f:Nat->Nat->Pl}:cj T [nG] [] 60 wG [part Aa [1,1,1,1]] ⟨aB ud (Gh f n m r j),xW f n r j,1⟩=
  some (leaf ret [aq 1 j fun i=>aq 12 n fun i_1=>bh (f i_1 (i+0)) r]):=ag
theorem aoj {r:Nat} {f:Nat->Nat->Pl}:bU T [nG] [100009] 60 wG (ay wG) ⟨aP 0 [hU f 0 0 r],[],0⟩=
  some (aj [((↑(0:Nat):Int)==0)=true] (leaf ret [nil])):=ag
theorem ajT {s:Sf}:aG T tq [] 60 uk (before AO [1,1,0,1]) ⟨aP 0 [aZ s 2000 2000],[],0⟩=
  let c2:Nat:=(aV (aZ s 2000 2000)).size;let c1:AV:=bH (s.f 0) s.m 2000;some (aj [(0:Nat)<1,ec (fun i=>bH (s.f i) s.m 2000) s.n (sk c1),s.n=0->fW c1=0,s.n<2^28,fW c1<2^28] (leaf normal ([nil,ptr 0 0 c2 0 [],nil,aq 1 (fW c1) fun i=>aq 12 s.n fun i_1=>agg [agg [rat (aL (rat (s.f i_1 i).n.x 2000)) (sk c1),rat (aL (rat (s.f i_1 i).n.y 2000)) (sk c1),rat (aL (rat (s.f i_1 i).n.z 2000)) (sk c1)],rat (aL (rat (s.f i_1 i).d 2000)) (sk c1)],int i64 (↑(fW c1):Int),int i64 0],[(0,ak.mk false true c2 1 fun x=>aZ s 2000 2000)]))):=ag
theorem amz {s:Sf} {j:Nat}:aG T tq [14] 60 uk (before AR [1,1,0]) ⟨aB uk (Ci s j),z6 s j,2⟩=
  let c2:AV:=aq 3 s.a fun i=>rat (s.ku i) 2000;let c1:List AV×aE:=([nil,ptr 0 0 5 0 [],own 1 3 0 j,aq 1 s.m fun i=>aq 12 s.n fun i_1=>bh (s.f i_1 i) 2000,int i64 (↑s.m:Int),int i64 (↑j:Int)],[(1,ak.mk true true 3 j fun j=>agg [int i64 s.u,c2,aq 12 s.n fun i=>bD (cP (s.f i j)) 4000]),(0,ak.mk false true 5 1 fun x=>agg [int i64 s.u,int i64 s.v,c2,aq 3 s.b fun i=>rat (s.kv i) 2000,aq 1 s.n fun i=>aq 12 s.m fun i_1=>bh (s.f i i_1) 2000])]);some (fork (decide ((↑j:Int)<(↑s.m:Int))) (leaf normal c1) (leaf (exit 0) c1)):=ag
theorem WR {s:Sf} {j:Nat}:aG T tq [] 60 yl (before ya [1,1,0,1]) ⟨aB uk (Ci s j),z6 s j,2⟩=
  let c4:AV:=agg [int i64 0,nil,nil];let c3:Prop:=0<1;let c2:AV:=aq 3 s.a fun i=>rat (s.ku i) 2000;let c1:Nat:=(↑j:Int).toNat;some (aj [(0:Int)<=(↑j:Int)/\c1<s.m] (aj [c3,c3,c3] (leaf normal ([nil,ptr 0 0 5 0 [],own 1 3 0 j,aq 1 s.m fun i=>aq 12 s.n fun i_1=>bh (s.f i_1 i) 2000,int i64 (↑s.m:Int),int i64 (↑j:Int),ptr 32770 0 3 0 [],aq 12 s.n fun i=>bh (s.f i c1) 2000,int i64 (↑s.n:Int),int i64 0],[((32770:Nat),aS fun j=>if(j==0)=true then aV (agg ((c4.kids.set 0 (aV (int i64 s.u))).set 1 (aV (br s.ku s.a 2000))))else c4),(1,ak.mk true true 3 j fun j=>agg [int i64 s.u,c2,aq 12 s.n fun i=>bD (cP (s.f i j)) 4000]),(0,ak.mk false true 5 1 fun x=>agg [int i64 s.u,int i64 s.v,c2,aq 3 s.b fun i=>rat (s.kv i) 2000,aq 1 s.n fun i=>aq 12 s.m fun i_1=>bh (s.f i i_1) 2000])])))):=ag
theorem Vu {s:Sf} {j i:Nat}:aG T tq [25] 60 yl [part ya [1,1,0,1,0,0]] ⟨aB yl (LD s j i),KF s j i,4⟩=
  let c22:AV:=int i64 s.u;let c21:Int:=(↑s.n:Int);let c20:Int:=(↑(3:Nat):Int);let c19:AV:=own 1 3 0 j;let c18:AV:=own 3 12 0 i;let c17:AV:=ptr 2 0 3 0 [];let c16:AV:=ptr 0 0 5 0 [];let c15:Int:=(↑(4:Nat):Int);let c14:Nat:=2000+2000;let c13:Int:=(↑i:Int);let c12:AV:=rat 0 1;let c9:AV:=aq 3 s.a fun i=>rat (s.ku i) 2000;let c7:Int:=(2:Int)^63;let c6:AV:=aq 12 s.n fun i=>bh (s.f i j) 2000;let c5:Prop:=2000<2^42;let c4:AV:=aq 1 s.m fun i=>aq 12 s.n fun i_1=>bh (s.f i_1 i) 2000;let c3:Int:=(0:Int)+1;let c2:Prop:=0<1;let c23:Int:=c13+1;let c11:Int:=c3+1;let c10:AV:=agg [c22,br s.ku s.a 2000,c18];let c8:Pl:=s.f c13.toNat j;let c1:List (Nat×ak):=[(1,ak.mk true true 3 j fun j=>agg [c22,c9,aq 12 s.n fun i=>bD (cP (s.f i j)) 4000]),(0,ak.mk false true 5 1 fun x=>agg [c22,int i64 s.v,c9,aq 3 s.b fun i=>rat (s.kv i) 2000,aq 1 s.n fun i=>aq 12 s.m fun i_1=>bh (s.f i i_1) 2000])];some (fork (decide (c13<c21)) (aj [(0:Int)<=c13/\c13.toNat<s.n,c2] (aj [c2,c2,c2,(0:Int)<=0/\(0:Int)<c20,c2,c2,c2,c5,c5,(0:Int)<=0/\(0:Int)<c15,c2,-c7<=c3/\c3<c7,(0:Int)<=c3/\c3<c20,c2,c2,c2,c5,c5,(0:Int)<=c3/\c3<c15,c2,-c7<=c11/\c11<c7,(0:Int)<=c11/\c11<c20,c2,c2,c2,c5,c5,(0:Int)<=c11/\c11<c15,c2,-c7<=c11+1/\c11+1<c7,c2,c5,(1:Nat)<2^42,(0:Int)<=3/\(3:Int)<c15,c2,c2,c2,c2,(1:Nat)*12<=2^24,(i+1)*((224:Nat)+1)*2<=2^47,c2] (aj [-c7<=c23/\c23<c7] (leaf normal ([nil,c16,c19,c4,int i64 (↑s.m:Int),int i64 (↑j:Int),c17,c6,int i64 c21,int i64 c23],(40964,ak.mk true true 12 (i+1) fun i_1=>if i_1<i then bD (cP (s.f i_1 j)) 4000 else nth [agg [rat (c8.d*c8.n.x) c14,rat (c8.d*c8.n.y) c14,rat (c8.d*c8.n.z) c14,rat (c8.d+0) ((2000:Nat)+1+1)]] (agg [c12,c12,c12,c12]) (i_1-i+0))::((2:Nat),aS fun j=>if(j==0)=true then agg (c10.kids.set 2 (aV (own (nat_lit 40963+1) 12 0 (i+1))))else c10)::c1))))) (leaf (exit 2) ([nil,c16,c19,c4,int i64 (↑s.m:Int),int i64 (↑j:Int),c17,c6,int i64 c21,int i64 c13],(3,ak.mk true true 12 i fun i=>bD (cP (s.f i j)) 4000)::((2:Nat),aS fun x=>agg [c22,c9,c18])::c1))):=ag
theorem aht {s:Sf} {j i:Nat}:aG T tq [] 60 uk (behind ya [1,1,0,1]++[part AR [1,1,1]]) ⟨aB yl (LD s j i),KF s j i,4⟩=
  let c2:Int:=(↑j:Int)+1;let c1:AV:=aq 3 s.a fun i=>rat (s.ku i) 2000;some (aj [(0:Nat)<1,(1:Nat)*3<=2^24,(j+1)*((56:Nat)+1)*2<=2^47] (aj [-(2:Int)^63<=c2/\c2<2^63] (leaf normal ([nil,ptr 0 0 5 0 [],own 12292 3 0 (j+1),aq 1 s.m fun i=>aq 12 s.n fun i_1=>bh (s.f i_1 i) 2000,int i64 (↑s.m:Int),int i64 c2],[(12292,ak.mk true true 3 (j+1) fun i_1=>if i_1<j then dY (cC s i_1) 2000 4000 else nth [agg [int i64 s.u,c1,aq 12 i fun i=>bD (cP (s.f (i+0) j)) 4000]] (agg [int i64 0,nil,nil]) (i_1-j+0)),(0,ak.mk false true 5 1 fun x=>agg [int i64 s.u,int i64 s.v,c1,aq 3 s.b fun i=>rat (s.kv i) 2000,aq 1 s.n fun i=>aq 12 s.m fun i_1=>bh (s.f i i_1) 2000])])))):=ag
theorem YD {s:Sf} {j:Nat}:cj T tq [] 60 Gb [part AO [1,1,1]] ⟨aB uk (Ci s j),z6 s j,2⟩=
  some (leaf ret [aq 3 j fun i=>agg [int i64 s.u,aq 3 s.a fun i=>rat (s.ku i) 2000,aq 12 s.n fun i_1=>bD (cP (s.f i_1 (i+0))) 4000]]):=ag
theorem rowAt {j:Nat} {rl:List (Nat×Nat)} {g:Nat->AV} {v z:AV} {k:Nat} (hk:k<j+1) (hg:keys (g k)=[]) (hv:v=g j):eZ rl (if k<j then g k else nth [v] z (k-j+0)) (g k):=by
 by_cases h:k<j
 ·rw[if_pos h];exact cB hg rfl
 ·have:k=j:=aa
  subst this
  rw[if_neg h,Nat.sub_self,hv];exact cB hg rfl
theorem ahx {n m r:Nat} {f:Nat->Nat->Pl} (hn:1<=n) (h2:n<2^28) (h3:m<2^28) (K:Nat):aQ P ua K [hU f n m r] [] (aJ (hU (fun j i=>f i j) m n r) []):=by
 refine fc (r:=aJ (hU (fun j i=>f i j) m n r) []) hT It rfl aX rfl (fun _ cx h00=>?_) K []
 have hk:=gV h00
 refine au.wR hT (cz bz) hm (x:=Aa) [1,1,1,0,1] (i:=0) (y:=zk) (z:=part Aa [1,1,1,1]) ag ag ag It.dst [1,1,0] (j:=1) (x1:=yt) (zb:=part zk [1,1,1]) ag ag ag [1,1,0,1] (i2:=2) (y2:=part yt [1,1,0,1,0,0]) ag ag rfl
  hk (f1:=[200009]) (f2:=[15]) (f3:=[]) (f4:=[20]) (f5:=[]) 60 ud yK 1 2 (fun j:Nat=>Gh f n m r j) (fun j=>xW f n r j) (fun j=>j<=m) (fun j=>j=m) (fun j=>m-j) (fun j=>j<m) (fun _=>False) (fun _=>False)
  (fun j (i:Nat)=>Jq f n m r j i) (fun j i=>MA f n r j i) (fun _ i=>i<=n) (fun _ i=>i=n) (fun _ i=>n-i) ⟨_,amS,?_⟩ (fun j hj=>⟨_,abd,?_⟩) (fun j hj hg=>⟨_,ajp,?_⟩) (fun j hj hg i hi=>⟨_,V5,?_⟩) (fun j hj hg i hi=>⟨_,adk,?_⟩) (fun j hj=>?_) (fun _ _ h=>h.elim) (fun _ _ h=>h.elim)
 all_goals try simp only[ah.all,aA,bq,bw,bn,Nat.add_zero]
 ·exact⟨beq_eq_false_iff_ne.2 aa,aa,0,Nat.zero_le _,[],rfl,rfl,rfl,fV rfl aa aa trivial⟩
 ·exact⟨fun h=>⟨aa,[(0,0)],rfl,rfl,rfl,bk trivial⟩,fun h=>⟨rfl,j,aa,[(0,0)],rfl,rfl,rfl,bk trivial⟩⟩
 ·exact⟨0,Nat.zero_le _,[(0,0)],rfl,rfl,rfl,fV rfl aa aa (bk trivial)⟩
 ·refine⟨fun h=>⟨⟨aa,aa,aa,aa⟩,aa,i+1,aa,by dsimp only;omega,[(0,0),(1,49154)],rfl,rfl,rfl,bJ rfl rfl rfl (fun k hk=>vT (y:=fun i=>f i j) (fun _ _=>rfl) (.refl _) rfl aY aY hk) (bk trivial)⟩,
   fun h=>⟨rfl,i,aa,[(0,0),(1,1)],rfl,rfl,rfl,bk (bk trivial)⟩⟩
 ·subst hi
  exact⟨⟨aa,aa⟩,aa,j+1,aa,by dsimp only;omega,[(0,12290)],rfl,rfl,rfl,bJ rfl rfl rfl (fun k hk=>rowAt (g:=fun j=>bH (fun k=>f k j) i r) hk rfl rfl) trivial⟩
 ·subst hj
  refine au.gr ((aH.fin hT (cz bz) hm 60 amq ag ?_).mono fun _ _ h=>.inl h)
  simp only[ah.all,aA]
  exact .refl _
theorem aj0 {r:Nat} {f:Nat->Nat->Pl} (K:Nat):aQ P ua K [hU f 0 0 r] [] (aJ (hU (fun j i=>f i j) 0 0 r) []):=by
 refine bZ (r:=aJ (hU (fun j i=>f i j) 0 0 r) []) hT (cz bz) hm It rfl aX rfl 60 aoj (fun _=>?_) K []
 simp only[ah.all,aA]
 exact⟨rfl,ic (es:=1) (by decide)⟩
theorem JH:aW P EB ua:=ck fun⟨⟨⟨n,m,f⟩,r⟩,_⟩ K hn=>by
 obtain⟨h1,h2,h3⟩:(n=0->m=0)/\n<2^28/\m<2^28:=hn
 rcases Nat.eq_zero_or_pos n with h0|h0
 ·obtain rfl:=h1 h0
  subst h0
  exact aj0 K
 ·exact ahx h0 h2 h3 K
theorem PR:bu P tq:=cz (aI JH (aI (iU hT Zo hm ah5 _ _) jU))
theorem aeh {s:Sf} (hn:1<=s.n) (h2:s.n<2^28) (h3:s.m<2^28) (K:Nat):aQ P Ag K [aZ s 2000 2000] [] (aJ (k9 s s.m) []):=by
 refine fc (r:=aJ (k9 s s.m) []) hT Vf rfl aX rfl (fun _ cx h00=>?_) K []
 have hk:=gV h00
 refine au.wR hT PR hm (x:=AO) [1,1,0,1] (i:=0) (y:=AR) (z:=part AO [1,1,1]) ag ag ag Vf.dst [1,1,0] (j:=1) (x1:=ya) (zb:=part AR [1,1,1]) ag ag ag [1,1,0,1] (i2:=2) (y2:=part ya [1,1,0,1,0,0]) ag ag rfl
  hk (f1:=[]) (f2:=[14]) (f3:=[]) (f4:=[25]) (f5:=[]) 60 uk yl 2 4 (fun j:Nat=>Ci s j) (fun j=>z6 s j) (fun j=>j<=s.m) (fun j=>j=s.m) (fun j=>s.m-j) (fun j=>j<s.m) (fun _=>False) (fun _=>False)
  (fun j (i:Nat)=>LD s j i) (fun j i=>KF s j i) (fun _ i=>i<=s.n) (fun _ i=>i=s.n) (fun _ i=>s.n-i) ⟨_,ajT,?_⟩ (fun j hj=>⟨_,amz,?_⟩) (fun j hj hg=>⟨_,WR,?_⟩) (fun j hj hg i hi=>⟨_,Vu,?_⟩) (fun j hj hg i hi=>⟨_,aht,?_⟩) (fun j hj=>?_) (fun _ _ h=>h.elim) (fun _ _ h=>h.elim)
 all_goals try simp only[ah.all,aA,bq,bw,bn,Nat.add_zero]
 ·have e1:fW (bH (s.f 0) s.m 2000)=s.m:=rfl
  rw[e1]
  exact⟨⟨aa,gh aY,aa,h2,h3⟩,0,Nat.zero_le _,[(0,0)],rfl,rfl,rfl,fV rfl aa aa (aC trivial)⟩
 ·exact⟨fun h=>⟨aa,[(0,0),(1,1)],rfl,rfl,rfl,bk (aC trivial)⟩,fun h=>⟨rfl,j,aa,[(0,0),(1,1)],rfl,rfl,rfl,bk (aC trivial)⟩⟩
 ·exact⟨aa,⟨aa,aa,aa⟩,0,Nat.zero_le _,[(0,0),(1,1),(2,32770)],rfl,rfl,rfl,fV rfl aa aa (bG rfl rfl (gz ⟨aM,aM,⟨rfl,jd aa⟩,trivial⟩) (bk (aC trivial)))⟩
 ·refine⟨fun h=>?_,fun h=>⟨rfl,i,aa,[(0,0),(1,1),(2,2),(3,3)],rfl,rfl,rfl,bk (bG rfl rfl (qP rfl rfl rfl) (bk (aC trivial)))⟩⟩
  (repeat' with_reducible refine And.intro ?_ ?_)
  all_goals first|omega|skip
  exact⟨i+1,aa,by dsimp only;omega,[(0,0),(1,1),(2,2),(3,40964)],rfl,rfl,rfl,bJ rfl rfl rfl (fun k hk=>pM (g:=fun i=>bD (cP (s.f i j)) (4000)) (fun _ _=>⟨rfl,rfl⟩) rfl (b7 ⟨bO rfl aY,bO rfl aY,bO rfl aY,bO (Rat.add_zero _) (by decide),trivial⟩) hk) (bG rfl rfl (qP rfl rfl rfl) (bk (aC trivial)))⟩
 ·subst hi
  exact⟨⟨aa,aa,aa⟩,aa,j+1,aa,by dsimp only;omega,[(0,0),(1,12292)],rfl,rfl,rfl,bJ rfl rfl rfl (fun k hk=>rowAt (g:=fun j=>dY (cC s j) 2000 (4000)) hk rfl rfl) (aC trivial)⟩
 ·subst hj
  refine au.gr ((aH.fin hT PR hm 60 YD ag ?_).mono fun _ _ h=>.inl h)
  simp only[ah.all,aA]
  exact .refl _
def HZ:Spec:=cq (kC (gy 2000 2000) kN) (fun a=>k9 a.1 a.1.m) fun a=>[1<=a.1.n,a.1.n<2^28,a.1.m<2^28]
theorem PU:aW P HZ Ag:=ck fun⟨s,_⟩ K hn=>aeh hn.1 hn.2.1 hn.2.2 K
structure gd (s:Sf):Prop where
 ku:Kn s.a s.u.toNat s.ku
 kv:Kn s.b s.v.toNat s.kv
 u0:0<=s.u
 u6:s.u<=6
 v0:0<=s.v
 v6:s.v<=6
 a:s.a<=s.u.toNat+41
 b:s.b<=s.v.toNat+41
 n:(s.n:Int)=(s.a:Int)-s.u-1
 m:(s.m:Int)=(s.b:Int)-s.v-1
 w:∀i j,i<s.n->j<s.m->0<(s.f i j).d
theorem ai8:aT P pS B0 (ay B0):=aU Proofs.Tryz.func231 ag ag ag
theorem ahb:aT P qo Fe (ay Fe):=aU Proofs.Tryz.func161 ag ag ag
theorem Ta:aT P C5 B7 (ay B7):=aU Proofs.Tryz.func242 ag ag ag
theorem akb:aT P BT GB (ay GB):=aU Proofs.Tryz.func160 ag ag ag
theorem SI:aT P Hr oM (ay oM):=aU Proofs.Tryz.func149 ag ag ag
theorem anN:aT P By DI (ay DI):=aU Proofs.Tryz.func128 ag ag ag
theorem Tt {u v:AV} (h:bN u v):bN (.b6 u) (.b6 v):=by
 refine⟨rfl,fun M w cs hc=>?_⟩
 cases hc with
 |b6 h1 h2 h3=>cases h3;exact .b6 (h.2 _ _ _ h1) h2 .nil
theorem anv {f:FuncId} {us vs:List AV} (h:fq us vs) (hv:(vs.all fun v=>!v.isAgg&&!v.isTuple)=true):bN (.func f us) (.func f vs):=by
 refine⟨rfl,fun M w cs hc=>?_⟩
 cases hc with
 |func h1 h2 h3=>cases h3;exact .func (HR h h1) hv .nil
def JU {α:Type} (k:Kind α):Kind α:=⟨fun v=>match v with
 |.b6 v=>k.read v
 |_=>none,fun a=>.b6 (k.make a),fun {v a q} h hq=>by
  split at h
  ·exact Tt (k.ok h hq)
  ·simp at h⟩
def LZ {α:Type} (k:Kind α):Kind (FuncId×α):=⟨fun v=>match v with
 |.func f [.b6 v]=>match k.read v with
  |some (a,q)=>some ((f,a),q)
  |none=>none
 |_=>none,fun a=>.func a.1 [.b6 (k.make a.2)],fun {v a q} h hq=>by
  split at h
  ·split at h
   ·rename_i h1
    simp only[az,Prod.mk.injEq]at h
    obtain⟨rfl,rfl⟩:=h
    exact anv ⟨Tt (k.ok h1 hq),trivial⟩ rfl
   ·simp at h
  ·simp at h⟩
def J7:bf:=nG::(tc,qu)::[]
def SL:Spec:=cq (kC (qV sJ) (kC (JU (gy sJ sJ)) kN)) (fun _=>.bool false) fun a=>[(a.1.1:Int)=(a.2.1.b:Int)-a.2.1.v-1,a.2.1.b<2^40,-2^40<a.2.1.v,a.2.1.v<2^40]
def Uz:Spec:=cq (kC (qV sJ) (kC (JU (gy sJ sJ)) kN)) (fun _=>.bool false) fun a=>[a.1.1=a.2.1.m,1<=a.2.1.n]
def wm (m:Nat) (g:FuncId) (s:Sf):Prop:=(g=pS/\(m:Int)=(s.b:Int)-s.v-1/\s.b<2^40/\-2^40<s.v/\s.v<2^40)\/(g=qo/\m=s.m/\1<=s.n)
def Bg:bf:=nG::(pS,SL)::(qo,Uz)::[]
abbrev pZ:List Nat:=[4,0,1,7,8]
abbrev zK (f:Nat->Nat->Pl) (n m i:Nat) (g:FuncId) (s:Sf):List AV:=[.int .i64 0,hU f n m sJ,.func g [.b6 (aZ s sJ sJ)],.int .i64 n,.int .i64 i]
abbrev pY:Code:=ay B7
def Va:Spec:=cq (kC (G8 sJ) (kC (LZ (gy sJ sJ)) kN)) (fun _=>.int .i64 (-1)) fun a=>[a.1.1<2^40,wm a.1.2.1 a.2.1.1 a.2.1.2]
def Kh:Spec:=cq (kC (G8 sJ) (kC (LZ (gy sJ sJ)) kN)) (fun _=>.bool false) fun a=>[a.1.1<2^40,wm a.1.2.1 a.2.1.1 a.2.1.2]
def TM:bf:=nG::(C5,Va)::[]
def IT:bf:=nG::(tc,qu)::(BT,Kh)::[]
def I7:Spec:=cq (kC (gy sJ sJ) kN) (fun _=>.bool true) fun a=>[gd a.1]
def Uq:bf:=nG::(yR,Jn)::(Hr,I7)::[]
theorem adF {m:Nat} {f:Nat->Pl} {s:Sf}:bU T J7 [] 60 B0 (ay B0) ⟨aP 0 [bH f m sJ,.b6 (aZ s sJ sJ)],[],0⟩=
  some (aj [bt (fun i=>rat (s.kv i) sJ) s.b sK,s.b<2^40,-(2:Int)^40<s.v,s.v<2^40] (leaf ret [AV.bool ((↑m:Int)!=(↑s.b:Int)-s.v-1)])):=ag
theorem acD {m:Nat} {f:Nat->Pl} {s:Sf}:bU T J7 [] 60 Fe (ay Fe) ⟨aP 0 [bH f m sJ,.b6 (aZ s sJ sJ)],[],0⟩=
  some (aj [(0:Int)<=0/\Int.toNat (0:Int)<s.n] (leaf ret [AV.bool ((↑m:Int)!=(↑s.m:Int))])):=ag
theorem U3 {f:Nat->Nat->Pl} {n m:Nat} {g:FuncId} {s:Sf}:aG T Bg [] 60 pZ (before pY [1,0,1]) ⟨aP 0 [hU f n m sJ,.func g [.b6 (aZ s sJ sJ)]],[],0⟩=
  some (leaf normal ([int i64 0,aq 1 n fun i=>aq 12 m fun i_1=>bh (f i i_1) 4000,func g [(aZ s 4000 4000).b6],int i64 (↑n:Int),int i64 0],[])):=ag
theorem aat {f:Nat->Nat->Pl} {n m i:Nat} {s:Sf}:aG T Bg [9] 60 pZ [part pY [1,0,1,0,0]] ⟨aB pZ (zK f n m i pS s),[],0⟩=
  let c5:Int:=(↑n:Int);let c3:Int:=(↑i:Int);let c2:AV:=aq 1 n fun i=>aq 12 m fun i_1=>bh (f i i_1) 4000;let c1:AV:=func pS [(aZ s 4000 4000).b6];let c4:Int:=c3+1;some (fork (decide (c3<c5)) (aj [(0:Int)<=c3/\c3.toNat<n,ki (fun i=>bh (f c3.toNat i) sJ) m sJ,bt (fun i=>rat (s.ku i) sJ) s.a sJ,bt (fun i=>rat (s.kv i) sJ) s.b sJ,ec (fun i=>bH (s.f i) s.m sJ) s.n sJ,(↑m:Int)=(↑s.b:Int)-s.v-1,s.b<2^40,-(2:Int)^40<s.v,s.v<2^40] (aj [-(2:Int)^63<=c4/\c4<2^63] (leaf normal ([int i64 0,c2,c1,int i64 c5,int i64 c4],[])))) (leaf (exit 0) ([int i64 0,c2,c1,int i64 c5,int i64 c3],[]))):=ag
theorem ajg {f:Nat->Nat->Pl} {n m i:Nat} {s:Sf}:aG T Bg [9] 60 pZ [part pY [1,0,1,0,0]] ⟨aB pZ (zK f n m i qo s),[],0⟩=
  let c5:Int:=(↑n:Int);let c3:Int:=(↑i:Int);let c2:AV:=aq 1 n fun i=>aq 12 m fun i_1=>bh (f i i_1) 4000;let c1:AV:=func qo [(aZ s 4000 4000).b6];let c4:Int:=c3+1;some (fork (decide (c3<c5)) (aj [(0:Int)<=c3/\c3.toNat<n,ki (fun i=>bh (f c3.toNat i) sJ) m sJ,bt (fun i=>rat (s.ku i) sJ) s.a sJ,bt (fun i=>rat (s.kv i) sJ) s.b sJ,ec (fun i=>bH (s.f i) s.m sJ) s.n sJ,m=fW (bH (s.f 0) s.m sJ),(1:Nat)<=s.n] (aj [-(2:Int)^63<=c4/\c4<2^63] (leaf normal ([int i64 0,c2,c1,int i64 c5,int i64 c4],[])))) (leaf (exit 0) ([int i64 0,c2,c1,int i64 c5,int i64 c3],[]))):=ag
theorem PM {f:Nat->Nat->Pl} {n m i:Nat} {g:FuncId} {s:Sf}:cj T Bg [] 60 B7 [part pY [1,1]] ⟨aB pZ (zK f n m i g s),[],0⟩=
  some (leaf ret [int i64 (-1:Int)]):=ag
theorem ad6 {f:Nat->Nat->Pl} {n m:Nat} {g:FuncId} {s:Sf}:bU T TM [] 60 GB (ay GB) ⟨aP 0 [hU f n m sJ,.func g [.b6 (aZ s sJ sJ)]],[],0⟩=
  some (aj [ec (fun i=>bH (f i) m sJ) n sJ,bt (fun i=>rat (s.ku i) sJ) s.a sJ,bt (fun i=>rat (s.kv i) sJ) s.b sJ,ec (fun i=>bH (s.f i) s.m sJ) s.n sJ,n<2^40,wm (fW (bH (f 0) m sJ)) g (Sf.mk s.u s.v s.a (fun i=>aL (rat (s.ku i) sJ)) s.b (fun i=>aL (rat (s.kv i) sJ)) s.n (fW (bH (s.f 0) s.m sJ)) (jo fun i=>bH (s.f i) s.m sJ))] (leaf ret [AV.bool false])):=ag
theorem abj {s:Sf}:aG T IT [] 60 [1,2] (before (ay oM) [1]) ⟨aP 0 [aZ s sJ sJ],[],0⟩=
  let c1:Nat:=(aV (aZ s sJ sJ)).size;some (leaf normal ([ptr 0 0 c1 0 [],AV.bool false],[(0,ak.mk false true c1 1 fun x=>aZ s 4000 4000)])):=ag
theorem ade {s:Sf}:cj T IT [100012] 60 oM [part (ay oM) [1]] ⟨aB [1,2] [.b6 (aZ s sJ sJ),.bool false],[(0,⟨false,false,5,1,fun _=>aZ s sJ sJ⟩)],1⟩=
  let c2:Nat:=fW (bH (s.f 0) s.m sJ);let c1:Prop:=ec (fun i=>bH (s.f i) s.m sJ) s.n sJ;some (aj [bt (fun i=>rat (s.ku i) sJ) s.a sK,s.a<2^40,-(2:Int)^40<s.u,s.u<2^40,((↑s.n:Int)==(↑s.a:Int)-s.u-1)=true,c1,bt (fun i=>rat (s.ku i) sJ) s.a sJ,bt (fun i=>rat (s.kv i) sJ) s.b sJ,c1,s.n<2^40,wm c2 pS (Sf.mk s.u s.v s.a (fun i=>aL (rat (s.ku i) sJ)) s.b (fun i=>aL (rat (s.kv i) sJ)) s.n c2 (jo fun i=>bH (s.f i) s.m sJ))] (leaf ret [AV.bool true])):=ag
theorem anV {s:Sf}:bU T Uq [100009,100017] 60 DI (ay DI) ⟨aP 0 [aZ s sJ sJ],[],0⟩=
  let c3:Prop:=bt (fun i=>rat (s.ku i) sJ) s.a sJ;let c2:Prop:=bt (fun i=>rat (s.kv i) sJ) s.b sJ;let c1:Prop:=0<1;some (aj [c1,c1,c3,s.a<2^40,(gY s.a (fun i=>aL (rat (s.ku i) sJ)) s.u==0)=true,c1,c1,c2,s.b<2^40,(bif true then gY s.b (fun i=>aL (rat (s.kv i) sJ)) s.v==0 else false)=true,c1,c3,c2,ec (fun i=>bH (s.f i) s.m sJ) s.n sJ,gd (Sf.mk s.u s.v s.a (fun i=>aL (rat (s.ku i) sJ)) s.b (fun i=>aL (rat (s.kv i) sJ)) s.n (fW (bH (s.f 0) s.m sJ)) (jo fun i=>bH (s.f i) s.m sJ))] (leaf ret [AV.bool true])):=ag
theorem TE:bu P J7:=cz (aI Ap bz)
theorem abA:aW P SL pS:=ck fun⟨⟨m,f⟩,s,_⟩ K hn=>by
 obtain⟨h1,h2,h3,h4⟩:=hn
 refine bZ (r:=aJ (.bool false) []) hT TE hm ai8 rfl aX rfl 60 (adF (m:=m) (f:=f) (s:=s)) (fun _=>?_) K []
 dsimp only at h1 h2 h3 h4
 simp only[ah.all,aA]
 (repeat' with_reducible refine And.intro ?_ ?_)
 all_goals first|omega|exact bP (by decide)|skip
 exact gl (bne_eq_false_iff_eq.2 h1)
theorem aoC:aW P Uz qo:=ck fun⟨⟨m,f⟩,s,_⟩ K hn=>by
 obtain⟨h1,h2⟩:=hn
 refine bZ (r:=aJ (.bool false) []) hT TE hm ahb rfl aX rfl 60 (acD (m:=m) (f:=f) (s:=s)) (fun _=>?_) K []
 dsimp only at h1 h2
 simp only[ah.all,aA]
 (repeat' with_reducible refine And.intro ?_ ?_)
 all_goals first|omega|exact gl (bne_eq_false_iff_eq.2 aa)|skip
 exact h2
theorem Ow:bu P Bg:=cz (aI abA (aI aoC bz))
theorem aj7 {f:Nat->Nat->Pl} {n m:Nat} {g:FuncId} {s:Sf} (hn:n<2^40) (hg:wm m g s) (K:Nat):aQ P C5 K [hU f n m sJ,.func g [.b6 (aZ s sJ sJ)]] [] (aJ (.int .i64 (-1)) []):=by
 have lv:fW (bH (s.f 0) s.m sJ)=s.m:=rfl
 rcases hg with⟨rfl,h1,h2,h3,h4⟩|⟨rfl,h1,h2⟩
 ·refine ij (r:=aJ (.int .i64 (-1)) []) hT Ow hm Ta rfl aX rfl [1,0,1] (i:=0) (y:=part pY [1,0,1,0,0]) (z:=part pY [1,1]) ag ag ag (f1:=[]) (f2:=[9]) (f3:=[]) 60 pZ 0
   (fun i:Nat=>zK f n m i pS s) (fun _=>[]) (fun i=>i<=n) (fun i=>i=n) (fun i=>n-i) (fun _=>⟨⟨_,U3,?_⟩,fun i hi=>⟨_,aat,?_⟩,fun i hi=>⟨_,PM,?_⟩⟩) K []
  ·simp only[ah.all,aA]
   exact⟨0,Nat.zero_le _,[],rfl,rfl,rfl,trivial⟩
  ·simp only[ah.all,aA,bq,bw,bn]
   exact⟨fun h=>⟨⟨aa,nw aY,bP aY,bP aY,gh aY,h1,h2,h3,h4⟩,aa,i+1,aa,by dsimp only;omega,[],rfl,rfl,rfl,trivial⟩,fun h=>⟨rfl,i,aa,[],rfl,rfl,rfl,trivial⟩⟩
  ·simp only[ah.all,aA]
   exact .refl _
 ·refine ij (r:=aJ (.int .i64 (-1)) []) hT Ow hm Ta rfl aX rfl [1,0,1] (i:=0) (y:=part pY [1,0,1,0,0]) (z:=part pY [1,1]) ag ag ag (f1:=[]) (f2:=[9]) (f3:=[]) 60 pZ 0
   (fun i:Nat=>zK f n m i qo s) (fun _=>[]) (fun i=>i<=n) (fun i=>i=n) (fun i=>n-i) (fun _=>⟨⟨_,U3,?_⟩,fun i hi=>⟨_,ajg,?_⟩,fun i hi=>⟨_,PM,?_⟩⟩) K []
  ·simp only[ah.all,aA]
   exact⟨0,Nat.zero_le _,[],rfl,rfl,rfl,trivial⟩
  ·simp only[ah.all,aA,bq,bw,bn,lv]
   exact⟨fun h=>⟨⟨aa,nw aY,bP aY,bP aY,gh aY,h1,h2⟩,aa,i+1,aa,by dsimp only;omega,[],rfl,rfl,rfl,trivial⟩,fun h=>⟨rfl,i,aa,[],rfl,rfl,rfl,trivial⟩⟩
  ·simp only[ah.all,aA]
   exact .refl _
theorem alY:aW P Va C5:=ck fun⟨⟨n,m,f⟩,⟨g,s⟩,_⟩ K hn=>aj7 hn.1 hn.2 K
theorem air:bu P TM:=cz (aI alY bz)
theorem OS:aW P Kh BT:=ck fun⟨⟨n,m,f⟩,⟨g,s⟩,_⟩ K hn=>by
 refine bZ (r:=aJ (.bool false) []) hT air hm akb rfl aX rfl 60 (ad6 (f:=f) (n:=n) (m:=m) (g:=g) (s:=s)) (fun _=>?_) K []
 simp only[ah.all,aA]
 exact⟨⟨gh aY,bP aY,bP aY,gh aY,hn.1,hn.2⟩,.refl _⟩
theorem RK:bu P IT:=cz (aI Ap (aI OS bz))
theorem QO:aW P I7 Hr:=ck fun⟨s,_⟩ K hn=>by
 have hs:gd s:=hn
 obtain⟨ku,kv,u0,u6,v0,v6,ha,hb,hn',hm2,hw⟩:=id hs
 refine fc (r:=aJ (.bool true) []) hT SI rfl aX rfl (fun _ cx h00=>?_) K []
 have hk:=gV h00
 refine au.hole [1] ag (aH.bC hT RK hm 60 [1,2] abj (mS SI.dst) ?_)
 intro s' hs'
 show au _ _ _ (part (ay oM) [1]) s' _
 rw[show behind (ay oM) [1]=[]from by kernel_rfl]
 refine au.jn (s2:=⟨aB [1,2] [.ptr 0 0 5 0 [],.bool false],[(0,⟨false,true,5,1,fun _=>aZ s sJ sJ⟩)],1⟩) (cU.le ⟨[(0,0)],rfl,rfl,rfl,aC trivial⟩ hs' hk) ((?_:au P cx oM.ntmps (part (ay oM) [1]) _ (eo cx (Fin T oM (.bool true)))).mono fun e s' h=>by cases e<;>exact h)
 refine au.L4 (t:=1) (k:=0) rfl rfl rfl rfl rfl ?_
 refine au.gr ((aH.fin hT RK hm 60 ade ag ?_).mono fun _ _ h=>.inl h)
 have lv:fW (bH (s.f 0) s.m sJ)=s.m:=rfl
 simp only[ah.all,aA,lv]
 (repeat' with_reducible refine And.intro ?_ ?_)
 all_goals first|omega|exact bP (by decide)|exact gh aY|exact beq_iff_eq.2 hn'|exact .inl ⟨rfl,hm2,by dsimp only;omega,by dsimp only;omega,by dsimp only;omega⟩|exact .refl _|skip
theorem WU:bu P Uq:=cz (aI Pd (aI QO bz))
def Jd:Spec:=cq (kC (gy sJ sJ) kN) (fun _=>.bool true) fun a=>[gd a.1]
theorem PE:aW P Jd By:=ck fun⟨s,_⟩ K hn=>by
 have hs:gd s:=hn
 obtain⟨ku,kv,u0,u6,v0,v6,ha,hb,hn',hm2,hw⟩:=id hs
 refine bZ (r:=aJ (.bool true) []) hT WU hm anN rfl aX rfl 60 anV (fun _=>?_) K []
 have c1:gY s.a (fun i=>aL (rat (s.ku i) sJ)) s.u=0:=by have:=ku.Ly aa ha;rwa [Int.toNat_of_nonneg u0]at this
 have c2:gY s.b (fun i=>aL (rat (s.kv i) sJ)) s.v=0:=by have:=kv.Ly aa hb;rwa [Int.toNat_of_nonneg v0]at this
 simp only[ah.all,aA,cond_true]
 (repeat' with_reducible refine And.intro ?_ ?_)
 all_goals first|omega|exact bP (by decide)|exact gh aY|exact beq_iff_eq.2 c1|exact beq_iff_eq.2 c2|exact hs|exact .refl _|skip
theorem XN:aT P vu Eo (ay Eo):=aU Proofs.Tryz.func155 ag ag ag
abbrev wh (y m:Nat) (k:Nat->Rat):ak:=⟨true,true,3,m,fun i=>.rat (k i) y⟩
abbrev AA:Code:=ay Eo
abbrev xR:List Nat:=[3,9,10,11]
abbrev MM (x n:Nat) (k:Nat->Rat) (i:Nat):List AV:=[.own 0 3 0 i,br k n x,.int .i64 n,.int .i64 i]
def CD:bf:=nG::iR
theorem aoA {x n:Nat} {k:Nat->Rat}:aG T CD [] 60 xR (before AA [1,1,0,1]) ⟨aP 0 [br k n x],[],0⟩=
  let c1:Int:=(↑n:Int);some (aj [(0:Int)<=0/\(0:Int)<=c1/\c1<=2^47/\c1*(↑(56:Nat):Int)<=2^47] (leaf normal ([own 12288 3 0 0,aq 3 n fun i=>rat (k i) x,int i64 c1,int i64 0],[(12288,ak.mk true true 3 0 fun x=>rat 0 1)]))):=ag
theorem ai0 {x y n i:Nat} {k:Nat->Rat}:aG T CD [12] 60 xR [part AA [1,1,0,1,0,0]] ⟨aB xR (MM x n k i),[(0,wh y i k)],1⟩=
  let c4:Int:=(↑n:Int);let c2:AV:=aq 3 n fun i=>rat (k i) x;let c1:Int:=(↑i:Int);let c3:Int:=c1+1;some (fork (decide (c1<c4)) (aj [(0:Int)<=c1/\c1.toNat<n,(0:Nat)<1] (aj [(0:Nat)<1,x<2^42,(1:Nat)<2^42,(1:Nat)*3<=2^24,(i+1)*((56:Nat)+1)*2<=2^47] (aj [-(2:Int)^63<=c3/\c3<2^63] (leaf normal ([own 40961 3 0 (i+1),c2,int i64 c4,int i64 c3],[(40961,ak.mk true true 3 (i+1) fun i_1=>if i_1<i then rat (k i_1) y else nth [rat (k c1.toNat+0) (x+1+1)] (rat 0 1) (i_1-i+0))]))))) (leaf (exit 0) ([own 0 3 0 i,c2,int i64 c4,int i64 c1],[(0,ak.mk true true 3 i fun i=>rat (k i) y)]))):=ag
theorem aa6 {x y n i:Nat} {k:Nat->Rat}:cj T CD [] 60 Eo [part AA [1,1,1]] ⟨aB xR (MM x n k i),[(0,wh y i k)],1⟩=
  some (leaf ret [aq 3 i fun i=>rat (k (i+0)) y]):=ag
theorem Xz:bu P CD:=cz jU
theorem V0 {x y n:Nat} {k:Nat->Rat} (hxy:x+10<=y) (hy:y<2^40) (hn:n<2^40) (K:Nat):aQ P vu K [br k n x] [] (aJ (br k n y) []):=by
 refine ij (r:=aJ (br k n y) []) hT Xz hm XN rfl aX rfl [1,1,0,1] (i:=0) (y:=part AA [1,1,0,1,0,0]) (z:=part AA [1,1,1]) ag ag ag (f1:=[]) (f2:=[12]) (f3:=[]) 60 xR 1
  (fun i:Nat=>MM x n k i) (fun i=>[(0,wh y i k)]) (fun i=>i<=n) (fun i=>i=n) (fun i=>n-i) (fun _=>⟨⟨_,aoA,?_⟩,fun i hi=>⟨_,ai0,?_⟩,fun i hi=>⟨_,aa6,?_⟩⟩) K []
 ·simp only[ah.all,aA]
  exact⟨aa,0,Nat.zero_le _,[(0,12288)],rfl,rfl,rfl,bJ rfl rfl rfl (fun i hi=>absurd hi (Nat.not_lt_zero i)) trivial⟩
 ·simp only[ah.all,aA,bq,bw,bn,Nat.add_zero]
  exact⟨fun h2=>⟨aa,aa,aa,i+1,aa,by dsimp only;omega,[(0,40961)],rfl,rfl,rfl,bJ rfl rfl rfl (fun j hj=>kU (fun _ _=>rfl) (Rat.add_zero _) aY aa hj) trivial⟩,fun h2=>⟨rfl,i,aa,[(0,0)],rfl,rfl,rfl,bJ rfl rfl rfl (fun j hj=>cB rfl rfl) trivial⟩⟩
 ·subst hi
  simp only[ah.all,aA]
  exact nv rfl fun j hj=>rfl
def F3 (x y:Nat):Spec:=cq (kC (kL x) kN) (fun a=>br a.1.2 a.1.1 y) fun a=>[x+10<=y,y<2^40,a.1.1<2^40]
theorem HF (x y:Nat):aW P (F3 x y) vu:=ck fun⟨⟨n,k⟩,_⟩ K hn=>V0 hn.1 hn.2.1 hn.2.2 K
theorem Mz:aT P zw uH (ay uH):=aU Proofs.Tryz.func152 ag ag ag
theorem Yn:aT P IP Da (ay Da):=aU Proofs.Tryz.func52 ag ag ag
theorem Ry:aT P De vC (ay vC):=aU Proofs.Tryz.func53 ag ag ag
theorem Ky {f:Nat->Pl} {m s s':Nat} (h:s<=s'):mA (fun i=>bD (f i) s) m s':=fun _ _=>qO rfl h
def xd:Cu:=⟨0,0,fun _=>0,0,fun _=>⟨⟨0,0,0⟩,0⟩⟩
def lz (s:Sf) (u:Rat):Cu:=if dI s.a s.ku u then xd else⟨s.v,s.b,s.kv,s.m,fun j=>gu (cC s j) u⟩
def xm:bf:=nG::(By,Jd)::(Ag,HZ)::(xe,Tx)::[]
abbrev yI:List Nat:=[4,5,3,6,21,22,23]
abbrev JB (s:Sf) (j:Nat):List AV:=[.ptr 1 0 3 0 [],.int .i64 0,.ptr 0 0 3 0 [],.ptr 2 0 3 0 [],k9 s s.m,.int .i64 s.m,.int .i64 j]
abbrev JG (s:Sf) (u:Rat) (j:Nat):aE:=[(3,⟨true,true,12,j,fun j=>bD (gu (cC s j) u) sH⟩),(2,⟨false,true,3,1,fun _=>.agg [.int .i64 s.v,br s.kv s.b 2000,.own 3 12 0 j]⟩),(1,⟨false,true,3,1,fun _=>.agg [.int .i64 0,.nil,.nil]⟩),(0,tP u sK)]
abbrev m9:Code:=ay uH
abbrev En:List Nat:=[4,5,3,21,22,23]
abbrev MR (s:Sf):List AV:=[.ptr 1 0 3 0 [],.int .i64 0,.ptr 0 0 3 0 [],k9 s s.m,.int .i64 s.m,.int .i64 ((0:Nat):Int)]
abbrev Um (u:Rat):aE:=[(1,⟨false,true,3,1,fun _=>.agg [.int .i64 0,.nil,.nil]⟩),(0,tP u sK)]
abbrev ajX (u:Rat):aE:=[(0,tP u sK),(1,⟨false,true,3,1,fun j=>if(j==0)=true then aV (.agg (AV.kids (.agg [.int .i64 0,.nil,.nil])))else .agg [.int .i64 0,.nil,.nil]⟩)]
def NH:Spec:=cq (kC (sA sK sH) (kC (gN sK) kN)) (fun a=>.tuple [bD (gu a.1 a.2.1) nL,.int .i64 (cX a.1.n a.1.k a.2.1)]) fun a=>[Kn a.1.n a.1.p.toNat a.1.k,0<=a.1.p,a.1.p<=6,a.1.n<2^40,(a.1.m:Int)=(a.1.n:Int)-a.1.p-1]
def Su:Spec:=cq (kC (Bw nL) kN) (fun a=>bh (dU a.1) Jw) fun _=>[]
def Kc:Spec:=cq (kC (gy 2000 2000) (kC (gN sK) kN)) (fun a=>.tuple [dY (lz a.1 a.2.1) 2000 sH,.int .i64 (cX a.1.a a.1.ku a.2.1)]) fun a=>[gd a.1,1<=a.1.u,1<=a.1.v]
def TG:bf:=nG::(zw,Kc)::(xe,NH)::(qJ,Su)::[]
def Et:bf:=nG::(zw,Kc)::(vu,F3 2000 sK)::(qJ,PW)::[]
abbrev yS:List Nat:=[4,5,8,28,29,30]
abbrev JN (c:Cu) (j:Nat):List AV:=[.ptr 0 0 3 0 [],.int .i64 0,.ptr 1 0 3 0 [],pU c.f c.m sH,.int .i64 c.m,.int .i64 j]
abbrev MC (c:Cu) (j:Nat):aE:=[(2,⟨true,true,12,j,fun j=>bh (dU (c.f j)) sE⟩),(1,⟨false,true,3,1,fun _=>.agg [.int .i64 c.p,br c.k c.n sK,.own 2 12 0 j]⟩),(0,⟨false,true,3,1,fun _=>.agg [.int .i64 0,.nil,.nil]⟩)]
abbrev vX:Code:=ay vC
theorem X9 {e:Int}:jt T vC .ret ⟨aB [4,5] [.ptr 8192 0 3 0 [],.int .i64 e],[(8192,⟨false,true,3,1,fun j=>if(j==0)=true then aV (.agg (AV.kids (.agg [.int .i64 0,.nil,.nil])))else .agg [.int .i64 0,.nil,.nil]⟩)],8193⟩=
  some (aj [(0:Nat)<1] (leaf ret [agg [int i64 0,nil,nil],int i64 e])):=ag
theorem acG {s:Sf} {u:Rat}:aG T xm [200013] 60 yI (before m9 [1,1,1,0,1]) ⟨aP 0 [aZ s 2000 2000,.rat u sK],[],0⟩=
  let c4:AV:=int i64 0;let c2:Prop:=0<1;let c1:Nat:=fW (bH (s.f 0) s.m 2000);let c3:AV:=agg [c4,nil,nil];some (aj [c2,bt (fun i=>rat (s.ku i) 2000) s.a sJ,bt (fun i=>rat (s.kv i) 2000) s.b sJ,ec (fun i=>bH (s.f i) s.m 2000) s.n sJ,gd (Sf.mk s.u s.v s.a (fun i=>aL (rat (s.ku i) 2000)) s.b (fun i=>aL (rat (s.kv i) 2000)) s.n c1 (jo fun i=>bH (s.f i) s.m 2000))] (aj [(!true)=false] (aj [c2,c2,c2] (aj [c2,bt (fun i=>rat (s.ku i) 2000) s.a 2000,bt (fun i=>rat (s.kv i) 2000) s.b 2000,ec (fun i=>bH (s.f i) s.m 2000) s.n 2000,(1:Nat)<=s.n,s.n<2^28,c1<2^28] (leaf normal ([ptr 8192 0 3 0 [],c4,ptr 4096 0 (aV (rat u sK)).size 0 [],ptr 49152 0 3 0 [],aq 3 c1 fun j=>agg [int i64 s.u,aq 3 s.a fun i=>rat (aL (rat (s.ku i) 2000)) 2000,aq 12 s.n fun i=>agg [rat (aL (rat (s.f i j).d 2000)*aL (rat (s.f i j).n.x 2000)) 4000,rat (aL (rat (s.f i j).d 2000)*aL (rat (s.f i j).n.y 2000)) 4000,rat (aL (rat (s.f i j).d 2000)*aL (rat (s.f i j).n.z 2000)) 4000,rat (aL (rat (s.f i j).d 2000)) 4000]],int i64 (↑c1:Int),c4],[((49152:Nat),aS fun j=>if(j==0)=true then aV (agg ((c3.kids.set 0 (aV (int i64 s.v))).set 1 (aV (br s.kv s.b 2000))))else c3),(4096,ak.mk false true (aV (rat u sK)).size 1 fun x=>rat u 4096),((8192:Nat),aS fun x=>c3)])))))):=ag
theorem WY {s:Sf} {u:Rat} {j:Nat}:aG T xm [24,34] 60 yI [part m9 [1,1,1,0,1,0,0]] ⟨aB yI (JB s j),JG s u j,4⟩=
  let c19:Int:=(↑s.m:Int);let c18:AV:=int i64 0;let c17:AV:=own 3 12 0 j;let c16:AV:=ptr 2 0 3 0 [];let c15:AV:=ptr 0 0 3 0 [];let c14:Int:=cX s.a (fun i=>aL (rat (s.ku i) 2000)) u;let c12:AV:=rat 0 1;let c11:Int:=(↑j:Int);let c10:Nat×ak:=((0:Nat),aS fun x=>rat u 4096);let c8:AV:=ptr 1 0 3 0 [];let c7:Prop:=0<1;let c3:Nat×ak:=(3,ak.mk true true 12 j fun j=>bD (gu (cC s j) u) 2147483648);let c1:AV:=k9 s s.m;let c20:Int:=c11+1;let c13:AV:=agg [c18,nil,nil];let c9:AV:=agg [int i64 s.v,br s.kv s.b 2000,c17];let c6:List AV:=[c15,c16,c1,int i64 c19,int i64 c11];let c4:Nat×ak:=((2:Nat),aS fun x=>agg [int i64 s.v,aq 3 s.b fun i=>rat (s.kv i) 2000,c17]);let c2:Pl:=gu (Cu.mk s.u s.a (fun i=>aL (rat (s.ku i) 2000)) s.n fun i=>ux (bD (cP (s.f i c11.toNat)) 4000)) u;let c5:List (Nat×ak):=[c10,((1:Nat),aS fun x=>c13)];some (fork (decide (c11<c19)) (aj [(0:Int)<=c11/\c11.toNat<s.m,c7] (aj [c7,c7,bt (fun i=>rat (s.ku i) 2000) s.a sK,mA (fun i=>bD (cP (s.f i c11.toNat)) 4000) s.n (sJ+sJ),sK<=sK,Kn s.a s.u.toNat fun i=>aL (rat (s.ku i) 2000),(0:Int)<=s.u,s.u<=6,s.a<2^40,(↑s.n:Int)=(↑s.a:Int)-s.u-1,c7] (fork (c14 !=(0:Int)) (aj [c7] (leaf ret (c8::int i64 c14::c6,[c3,c4,c10,((1:Nat),aS fun j=>if(j==0)=true then aV (agg c13.kids)else c13)]))) (aj [c7,c7,(1:Nat)*12<=2^24,(j+1)*((224:Nat)+1)*2<=2^47,c7] (aj [-(2:Int)^63<=c20/\c20<2^63] (leaf normal ([c8,c18,c15,c16,c1,int i64 c19,int i64 c20],(81924,ak.mk true true 12 (j+1) fun i=>if i<j then bD (gu (cC s i) u) sH else nth [bD c2 sH] (agg [c12,c12,c12,c12]) (i-j+0))::((2:Nat),aS fun j_1=>if(j_1==0)=true then agg (c9.kids.set 2 (aV (own (nat_lit 81923+1) 12 0 (j+1))))else c9)::c5))))))) (leaf (exit 0) (c8::c18::c6,c3::c4::c5))):=ag
theorem ahs {s:Sf} {u:Rat} {j:Nat}:cj T xm [] 60 uH [part m9 [1,1,1,1]] ⟨aB yI (JB s j),JG s u j,4⟩=
  let c1:Prop:=0<1;some (aj [c1,c1] (aj [c1] (leaf ret [agg [int i64 s.v,aq 3 s.b fun i=>rat (s.kv i) 2000,aq 12 j fun i=>agg [rat (gu (cC s (i+0)) u).n.x 2147483648,rat (gu (cC s (i+0)) u).n.y 2147483648,rat (gu (cC s (i+0)) u).n.z 2147483648,rat (gu (cC s (i+0)) u).d 2147483648]],int i64 0]))):=ag
theorem ajY {s:Sf} {u:Rat}:aG T xm [200013] 60 En (before m9 [1,1,1,0,1]) ⟨aP 0 [aZ s 2000 2000,.rat u sK],[],0⟩=
  let c3:AV:=int i64 0;let c2:Prop:=0<1;let c1:Nat:=fW (bH (s.f 0) s.m 2000);some (aj [c2,bt (fun i=>rat (s.ku i) 2000) s.a sJ,bt (fun i=>rat (s.kv i) 2000) s.b sJ,ec (fun i=>bH (s.f i) s.m 2000) s.n sJ,gd (Sf.mk s.u s.v s.a (fun i=>aL (rat (s.ku i) 2000)) s.b (fun i=>aL (rat (s.kv i) 2000)) s.n c1 (jo fun i=>bH (s.f i) s.m 2000))] (aj [(!true)=false] (aj [c2,c2,c2] (aj [c2,bt (fun i=>rat (s.ku i) 2000) s.a 2000,bt (fun i=>rat (s.kv i) 2000) s.b 2000,ec (fun i=>bH (s.f i) s.m 2000) s.n 2000,(1:Nat)<=s.n,s.n<2^28,c1<2^28] (leaf normal ([ptr 8192 0 3 0 [],c3,ptr 4096 0 (aV (rat u sK)).size 0 [],aq 3 c1 fun j=>agg [int i64 s.u,aq 3 s.a fun i=>rat (aL (rat (s.ku i) 2000)) 2000,aq 12 s.n fun i=>agg [rat (aL (rat (s.f i j).d 2000)*aL (rat (s.f i j).n.x 2000)) 4000,rat (aL (rat (s.f i j).d 2000)*aL (rat (s.f i j).n.y 2000)) 4000,rat (aL (rat (s.f i j).d 2000)*aL (rat (s.f i j).n.z 2000)) 4000,rat (aL (rat (s.f i j).d 2000)) 4000]],int i64 (↑c1:Int),c3],[(4096,ak.mk false true (aV (rat u sK)).size 1 fun x=>rat u 4096),((8192:Nat),aS fun x=>agg [c3,nil,nil])])))))):=ag
theorem aaV {s:Sf} {u:Rat}:aG T xm [100024,100034] 60 En [part m9 [1,1,1,0,1,0,0]] ⟨aB En (MR s),Um u,2⟩=
  let c4:AV:=agg [int i64 0,nil,nil];let c3:Int:=cX s.a (fun i=>aL (rat (s.ku i) 2000)) u;let c2:Int:=(↑(0:Nat):Int);let c1:Prop:=0<1;some (aj [decide (c2<(↑s.m:Int))=true] (aj [(0:Int)<=c2/\c2.toNat<s.m,c1] (aj [c1,c1,bt (fun i=>rat (s.ku i) 2000) s.a sK,mA (fun i=>bD (cP (s.f i c2.toNat)) 4000) s.n (sJ+sJ),sK<=sK,Kn s.a s.u.toNat fun i=>aL (rat (s.ku i) 2000),(0:Int)<=s.u,s.u<=6,s.a<2^40,(↑s.n:Int)=(↑s.a:Int)-s.u-1,c1] (aj [(c3 !=(0:Int))=true] (aj [c1] (leaf ret ([ptr 1 0 3 0 [],int i64 c3,ptr 0 0 3 0 [],k9 s s.m,int i64 (↑s.m:Int),int i64 0],[((0:Nat),aS fun x=>rat u 4096),((1:Nat),aS fun j=>if(j==0)=true then aV (agg c4.kids)else c4)]))))))):=ag
theorem YY {u:Rat} {e:Int}:jt T uH .ret ⟨aB [4,5,3] [.ptr 1 0 3 0 [],.int .i64 e,.ptr 0 0 3 0 []],ajX u,2⟩=
  some (aj [(0:Nat)<1] (leaf ret [agg [int i64 0,nil,nil],int i64 e])):=ag
theorem Xj {s:Sf} {u v:Rat}:bU T TG [18,28] 60 Da (ay Da) ⟨aP 0 [aZ s 2000 2000,.rat u sK,.rat v sK],[],0⟩=
  let c7:Int:=cX s.a (fun i=>aL (rat (s.ku i) 2000)) u;let c5:AV:=rat 0 1;let c4:Sf:=Sf.mk s.u s.v s.a (fun i=>aL (rat (s.ku i) 2000)) s.b (fun i=>aL (rat (s.kv i) 2000)) s.n (fW (bH (s.f 0) s.m 2000)) (jo fun i=>bH (s.f i) s.m 2000);let c3:Prop:=0<1;let c1:Cu:=lz c4 u;let c6:Int:=cX c1.n (fun i=>aL (rat (c1.k i) 2000)) v;let c2:Pl:=gu (Cu.mk c1.p c1.n (fun i=>aL (rat (c1.k i) 2000)) c1.m fun i=>ux (bD (c1.f i) sH)) v;some (aj [c3,c3,bt (fun i=>rat (s.ku i) 2000) s.a 2000,bt (fun i=>rat (s.kv i) 2000) s.b 2000,ec (fun i=>bH (s.f i) s.m 2000) s.n 2000,sK<=sK,gd c4,(1:Int)<=s.u,(1:Int)<=s.v,c3] (fork (c7 !=(0:Int)) (aj [c3] (aj [c3] (leaf ret [agg [c5,c5,c5],int i64 c7]))) (aj [c3,c3,bt (fun i=>rat (c1.k i) 2000) c1.n sK,mA (fun i=>bD (c1.f i) sH) c1.m sH,sK<=sK,Kn c1.n c1.p.toNat fun i=>aL (rat (c1.k i) 2000),(0:Int)<=c1.p,c1.p<=6,c1.n<2^40,(↑c1.m:Int)=(↑c1.n:Int)-c1.p-1,c3] (fork (c6 !=(0:Int)) (aj [c3] (aj [c3] (leaf ret [agg [c5,c5,c5],int i64 c6]))) (aj [c3,nL<=nL,nL<=nL,nL<=nL,nL<=nL,c3] (aj [c3] (leaf ret [agg [rat (c2.n.x/c2.d) 137438953474,rat (c2.n.y/c2.d) 137438953474,rat (c2.n.z/c2.d) 137438953474],int i64 0]))))))):=ag
theorem alZ {s:Sf} {u:Rat}:aG T Et [18] 60 yS (before vX [1,1,1,1,0,1]) ⟨aP 0 [aZ s 2000 2000,.rat u sK],[],0⟩=
  let c7:AV:=int i64 0;let c6:AV:=ptr 8192 0 3 0 [];let c5:Int:=cX s.a (fun i=>aL (rat (s.ku i) 2000)) u;let c2:Prop:=0<1;let c1:Sf:=Sf.mk s.u s.v s.a (fun i=>aL (rat (s.ku i) 2000)) s.b (fun i=>aL (rat (s.kv i) 2000)) s.n (fW (bH (s.f 0) s.m 2000)) (jo fun i=>bH (s.f i) s.m 2000);let c4:Cu:=lz c1 u;let c3:AV:=agg [c7,nil,nil];some (aj [c2,c2,bt (fun i=>rat (s.ku i) 2000) s.a 2000,bt (fun i=>rat (s.kv i) 2000) s.b 2000,ec (fun i=>bH (s.f i) s.m 2000) s.n 2000,sK<=sK,gd c1,(1:Int)<=s.u,(1:Int)<=s.v,c2] (fork (c5 !=(0:Int)) (aj [c2] (leaf ret ([c6,int i64 c5,tuple [],tuple [],tuple [],tuple []],[((8192:Nat),aS fun j=>if(j==0)=true then aV (agg c3.kids)else c3)]))) (aj [c2,c2,bt (fun i=>rat (c4.k i) 2000) c4.n 2000,(2000:Nat)+10<=sK,sK<2^40,c4.n<2^40,c2] (aj [c2] (leaf normal ([c6,c7,ptr 86016 0 3 0 [],aq 12 c4.m fun i=>bD (c4.f i) 2147483648,int i64 (↑c4.m:Int),c7],[((86016:Nat),aS fun j=>if(j==0)=true then aV (agg ((c3.kids.set 0 (aV (int i64 c4.p))).set 1 (aV (br (fun i=>aL (rat (c4.k i) 2000)) c4.n sK))))else c3),((8192:Nat),aS fun x=>c3)])))))):=ag
theorem agD {c:Cu} {j:Nat}:aG T Et [31] 60 yS [part vX [1,1,1,1,0,1,0,0]] ⟨aB yS (JN c j),MC c j,3⟩=
  let c12:Int:=(↑c.m:Int);let c11:AV:=int i64 0;let c10:AV:=own 2 12 0 j;let c9:AV:=ptr 1 0 3 0 [];let c8:AV:=ptr 0 0 3 0 [];let c7:Prop:=0<1;let c6:Int:=(↑j:Int);let c5:AV:=rat 0 1;let c1:AV:=aq 12 c.m fun i=>bD (c.f i) 2147483648;let c13:Int:=c6+1;let c4:AV:=agg [int i64 c.p,br c.k c.n sK,c10];let c3:Nat×ak:=((0:Nat),aS fun x=>agg [c11,nil,nil]);let c2:Pl:=c.f c6.toNat;some (fork (decide (c6<c12)) (aj [(0:Int)<=c6/\c6.toNat<c.m,c7] (aj [c7,c7,sH<=sH,sH<=sH,sH<=sH,sH<=sH,(1:Nat)*12<=2^24,(j+1)*((224:Nat)+1)*2<=2^47,c7] (aj [-(2:Int)^63<=c13/\c13<2^63] (leaf normal ([c8,c11,c9,c1,int i64 c12,int i64 c13],[(40963,ak.mk true true 12 (j+1) fun i=>if i<j then bh (dU (c.f i)) sE else nth [agg [agg [rat (c2.n.x/c2.d) sE,rat (c2.n.y/c2.d) sE,rat (c2.n.z/c2.d) sE],rat c2.d sE]] (agg [agg [c5,c5,c5],c5]) (i-j+0)),((1:Nat),aS fun j_1=>if(j_1==0)=true then agg (c4.kids.set 2 (aV (own (nat_lit 40962+1) 12 0 (j+1))))else c4),c3]))))) (leaf (exit 0) ([c8,c11,c9,c1,int i64 c12,int i64 c6],[(2,ak.mk true true 12 j fun j=>agg [agg [rat ((c.f j).n.x/(c.f j).d) 4294967298,rat ((c.f j).n.y/(c.f j).d) 4294967298,rat ((c.f j).n.z/(c.f j).d) 4294967298],rat (c.f j).d 4294967298]),((1:Nat),aS fun x=>agg [int i64 c.p,aq 3 c.n fun i=>rat (c.k i) 4096,c10]),c3]))):=ag
theorem aam {c:Cu} {j:Nat}:cj T Et [] 60 vC [part vX [1,1,1,1,1]] ⟨aB yS (JN c j),MC c j,3⟩=
  let c1:Prop:=0<1;some (aj [c1,c1] (aj [c1] (leaf ret [agg [int i64 c.p,aq 3 c.n fun i=>rat (c.k i) 4096,aq 12 j fun i=>agg [agg [rat ((c.f (i+0)).n.x/(c.f (i+0)).d) 4294967298,rat ((c.f (i+0)).n.y/(c.f (i+0)).d) 4294967298,rat ((c.f (i+0)).n.z/(c.f (i+0)).d) 4294967298],rat (c.f (i+0)).d 4294967298]],int i64 0]))):=ag
theorem amo:aW P NH xe:=ck fun⟨c,t,_⟩ K hn=>Sb (by decide) (by decide) hn.1 hn.2.1 hn.2.2.1 hn.2.2.2.1 hn.2.2.2.2 K
theorem aeB:aW P Su qJ:=ck fun⟨h,_⟩ K _=>LR (by decide) (by decide) (by decide) K
theorem HQ:bu P xm:=cz (aI PE (aI PU (aI aaC bz)))
theorem aim {s:Sf} {u:Rat} (h:dI s.a s.ku u):lz s u=xd:=if_pos h
theorem HD {s:Sf} {u:Rat} (h:¬dI s.a s.ku u):lz s u=⟨s.v,s.b,s.kv,s.m,fun j=>gu (cC s j) u⟩:=if_neg h
theorem akc {x y:Nat}:bN (.agg [.int .i64 0,.nil,.nil]) (dY xd x y):=b7 ⟨.refl _,ic (by decide),ic (by decide),trivial⟩
theorem Vm {s:Sf} {u:Rat} (hs:gd s) (K:Nat):aQ P zw K [aZ s 2000 2000,.rat u sK] [] (aJ (.tuple [dY (lz s u) 2000 sH,.int .i64 (cX s.a s.ku u)]) []):=by
 refine fc (r:=aJ (.tuple [dY (lz s u) 2000 sH,.int .i64 (cX s.a s.ku u)]) []) hT Mz rfl aX rfl (fun _ cx h00=>?_) K []
 have hk:=gV h00
 obtain⟨ku,kv,u0,u6,v0,v6,ha,hb,hn,hm2,hw⟩:=id hs
 have hlu:=ku.len
 have hlv:=kv.len
 have hpu:=ku.p1
 have hpv:=kv.p1
 have hm1:1<=s.m:=aa
 have lv:fW (bH (s.f 0) s.m 2000)=s.m:=rfl
 by_cases hout:dI s.a s.ku u
 ·have hE:cX s.a s.ku u=7:=by unfold cX;rw[if_pos hout]
  refine au.j4 hT HQ hm (x:=m9) [1,1,1,0,1] (i:=0) (y:=part m9 [1,1,1,0,1,0,0]) (z:=part m9 [1,1,1,1]) ag ag ag Mz.dst hk (f1:=[200013]) (f2:=[100024,100034]) 60 En 2 (fun _:Unit=>MR s) (fun _=>Um u) (fun _=>True) (fun _=>False) (fun _=>0) (ou T uH [4,5,3] (.tuple [dY (lz s u) 2000 sH,.int .i64 (cX s.a s.ku u)]))
   ⟨_,ajY,?_⟩ (fun _ _=>⟨_,aaV,?_⟩) (fun _ h=>h.elim) (fun v s' hv hs'=>hv.fin (L1:=[21,22,23]) hk hs')
  ·simp only[ah.all,aA,lv]
   exact⟨⟨aa,bP (by decide),bP (by decide),gh (by decide),hs⟩,rfl,⟨aa,aa,aa⟩,⟨aa,bP (by decide),bP (by decide),gh (by decide),aa,aa,aa⟩,(),trivial,[(0,4096),(1,8192)],rfl,rfl,rfl,aC (aC trivial)⟩
  ·have hE':cX s.a (fun i=>aL (rat (s.ku i) 2000)) u=7:=hE
   simp only[ah.all,aA,hE']
   exact⟨decide_eq_true aa,⟨⟨aa,aa⟩,aa⟩,⟨aa,aa,bP (by decide),Ky (by decide),aY,ku,u0,u6,aa,hn,aa⟩,by decide,aa,[_,_,_],_,2,_,rfl,rfl,rfl,YY,rfl,⟨⟨aa,fun _ _=>rfl⟩,⟨aa,fun _ _=>nQ rfl rfl⟩,trivial⟩,Nat.zero_lt_one,by rw[aim hout];exact akc,bK hE.symm,trivial⟩
 ·have hE:cX s.a s.ku u=0:=by unfold cX;rw[if_neg hout]
  refine au.j4 hT HQ hm (x:=m9) [1,1,1,0,1] (i:=0) (y:=part m9 [1,1,1,0,1,0,0]) (z:=part m9 [1,1,1,1]) ag ag ag Mz.dst hk (f1:=[200013]) (f2:=[24,34]) 60 yI 4 (fun j:Nat=>JB s j) (fun j=>JG s u j) (fun j=>j<=s.m) (fun j=>j=s.m) (fun j=>s.m-j) (fun _=>False)
   ⟨_,acG,?_⟩ (fun j hj=>⟨_,WY,?_⟩) (fun j hj=>?_) (fun _ _ h=>h.elim)
  ·simp only[ah.all,aA,lv]
   exact⟨⟨aa,bP (by decide),bP (by decide),gh (by decide),hs⟩,rfl,⟨aa,aa,aa⟩,⟨aa,bP (by decide),bP (by decide),gh (by decide),aa,aa,aa⟩,0,Nat.zero_le _,[(0,4096),(1,8192),(2,49152)],rfl,rfl,rfl,fV rfl aa aa (bG rfl rfl (gz ⟨aM,aM,⟨rfl,jd aa⟩,trivial⟩) (aC (aC trivial)))⟩
  ·have hE':cX s.a (fun i=>aL (rat (s.ku i) 2000)) u=0:=hE
   simp only[ah.all,aA,bq,bw,bn,Nat.add_zero,hE']
   exact⟨fun h=>⟨⟨⟨aa,aa⟩,aa⟩,⟨aa,aa,bP (by decide),Ky (by decide),aY,ku,u0,u6,aa,hn,aa⟩,fun h=>absurd h (by decide),fun _=>⟨⟨aa,aa,aa,aa,aa⟩,aa,j+1,aa,by dsimp only;omega,[(0,0),(1,1),(2,2),(3,81924)],rfl,rfl,rfl,bJ rfl rfl rfl (fun k hk=>pM (g:=fun j=>bD (gu (cC s j) u) sH) (fun _ _=>⟨rfl,rfl⟩) rfl (qO (h:=gu (cC s j) u) rfl aY) hk) (bG rfl rfl (qP rfl rfl rfl) (aC (aC trivial)))⟩⟩,
    fun h=>⟨rfl,j,aa,[(0,0),(1,1),(2,2),(3,3)],rfl,rfl,rfl,bk (bG rfl rfl (qP rfl rfl rfl) (aC (aC trivial)))⟩⟩
  ·subst hj
   refine au.gr ((aH.fin hT HQ hm 60 ahs ag ?_).mono fun _ _ h=>.inl h)
   simp only[ah.all,aA]
   exact⟨⟨aa,aa⟩,aa,by rw[HD hout];exact .refl _,bK hE.symm,trivial⟩
theorem OV:aW P Kc zw:=ck fun⟨s,u,_⟩ K hn=>Vm hn.1 K
def Ax (s:Sf) (u v:Rat):V3:=if dI s.a s.ku u then⟨0,0,0⟩else if dI s.b s.kv v then⟨0,0,0⟩else(dU (gu (lz s u) v)).n
def vq (s:Sf) (u v:Rat):Int:=if dI s.a s.ku u then 7 else cX s.b s.kv v
theorem anZ:bu P TG:=cz (aI OV (aI amo (aI aeB bz)))
def NK:Spec:=cq (kC (gy 2000 2000) (kC (gN sK) (kC (gN sK) kN))) (fun a=>.tuple [vA (Ax a.1 a.2.1 a.2.2.1) Jw,.int .i64 (vq a.1 a.2.1 a.2.2.1)]) fun a=>[gd a.1]
theorem VG:aW P NK IP:=ck fun⟨s,u,v,_⟩ K hn=>by
 have hs:gd s:=hn
 obtain⟨ku,kv,u0,u6,v0,v6,ha,hb,hn,hm2,hw⟩:=id hs
 have hpu:=ku.p1
 have hpv:=kv.p1
 refine bZ (r:=aJ (.tuple [vA (Ax s u v) Jw,.int .i64 (vq s u v)]) []) hT anZ hm Yn rfl aX rfl 60 Xj (fun _=>?_) K []
 have hE:cX s.a (fun i=>aL (rat (s.ku i) 2000)) u=cX s.a s.ku u:=rfl
 simp only[ah.all,aA,hE,bne_iff_ne,ne_eq,bne_eq_false_iff_eq]
 generalize hg:lz _ u=c1
 refine⟨⟨aa,aa,bP (by decide),bP (by decide),gh (by decide),aY,hs,aa,aa,aa⟩,fun h=>?_,fun h=>?_⟩
 ·have ho:=B2 h
  exact⟨aa,aa,Ab (u:=⟨0,0,0⟩) (by unfold Ax;rw[if_pos ho]) (by decide),bK (by unfold vq cX;rw[if_pos ho,if_pos ho]),trivial⟩
 ·have ho:=BL h
  have hc:c1=lz s u:=hg.symm
  have hi:=HD ho
  rw[hi]at hc
  subst hc
  have hE2:cX s.b (fun i=>aL (rat (s.kv i) 2000)) v=cX s.b s.kv v:=rfl
  simp only[hE2]
  refine⟨⟨aa,aa,bP (by decide),Ky (by decide),aY,kv,v0,v6,aa,hm2,aa⟩,fun h2=>?_,fun h2=>⟨⟨aa,aY,aY,aY,aY,aa⟩,aa,?_⟩⟩
  ·have ho2:=B2 h2
   exact⟨aa,aa,Ab (u:=⟨0,0,0⟩) (by unfold Ax;rw[if_neg ho,if_pos ho2]) (by decide),bK (by unfold vq;rw[if_neg ho]),trivial⟩
  ·have ho2:=BL h2
   refine⟨Ab (u:=(dU (gu ⟨s.v,s.b,s.kv,s.m,fun j=>gu (cC s j) u⟩ v)).n) (by unfold Ax;rw[if_neg ho,if_neg ho2,hi]) (by decide),bK (by unfold vq;rw[if_neg ho,h2]),trivial⟩
def wA (s:Sf) (u:Rat):Cu:=if dI s.a s.ku u then xd else⟨s.v,s.b,s.kv,s.m,fun j=>dU (gu (cC s j) u)⟩
theorem Pe:bu P Et:=cz (aI OV (aI (HF _ _) (aI ad7 bz)))
def Tl:Spec:=cq (kC (gy 2000 2000) (kC (gN sK) kN)) (fun a=>.tuple [bV (wA a.1 a.2.1) sK sE,.int .i64 (cX a.1.a a.1.ku a.2.1)]) fun a=>[gd a.1]
theorem Ya {x y:Nat}:bN (.agg [.int .i64 0,.nil,.nil]) (bV xd x y):=b7 ⟨.refl _,ic (by decide),ic (by decide),trivial⟩
theorem aay {s:Sf} {u:Rat} (hs:gd s) (K:Nat):aQ P De K [aZ s 2000 2000,.rat u sK] [] (aJ (.tuple [bV (wA s u) sK sE,.int .i64 (cX s.a s.ku u)]) []):=by
 refine fc (r:=aJ (.tuple [bV (wA s u) sK sE,.int .i64 (cX s.a s.ku u)]) []) hT Ry rfl aX rfl (fun _ cx h00=>?_) K []
 have hk:=gV h00
 obtain⟨ku,kv,u0,u6,v0,v6,ha,hb,hn,hm2,hw⟩:=id hs
 have hpu:=ku.p1
 have hpv:=kv.p1
 obtain⟨c,hc⟩:∃c:Cu,c=⟨s.v,s.b,s.kv,s.m,fun j=>gu (cC s j) u⟩:=⟨_,rfl⟩
 refine au.j4 hT Pe hm (x:=vX) [1,1,1,1,0,1] (i:=0) (y:=part vX [1,1,1,1,0,1,0,0]) (z:=part vX [1,1,1,1,1]) ag ag ag Ry.dst hk (f1:=[18]) (f2:=[31]) 60 yS 3 (fun j:Nat=>JN c j) (fun j=>MC c j) (fun j=>j<=c.m/\¬dI s.a s.ku u) (fun j=>j=c.m/\¬dI s.a s.ku u) (fun j=>c.m-j) (ou T vC [4,5] (.tuple [bV (wA s u) sK sE,.int .i64 (cX s.a s.ku u)]))
  ⟨_,alZ,?_⟩ (fun j ⟨hj,hin⟩=>⟨_,agD,?_⟩) (fun j ⟨hj,hin⟩=>?_) (fun v s' hv hs'=>hv.fin (L1:=[8,28,29,30]) hk hs')
 ·have hE:cX s.a (fun i=>aL (rat (s.ku i) 2000)) u=cX s.a s.ku u:=rfl
  simp only[ah.all,aA,hE,bne_iff_ne,ne_eq,bne_eq_false_iff_eq]
  generalize hg:lz _ u=c1
  refine⟨⟨aa,aa,bP (by decide),bP (by decide),gh (by decide),aY,hs,aa,aa,aa⟩,fun h=>?_,fun h=>?_⟩
  ·have ho:=B2 h
   exact⟨aa,[_,_],_,8193,_,rfl,rfl,rfl,X9,rfl,⟨⟨aa,fun _ _=>nQ rfl rfl⟩,trivial⟩,Nat.zero_lt_one,by rw[show wA s u=xd from if_pos ho];exact Ya,bK rfl,trivial⟩
  ·have ho:=BL h
   have hc1:c1=c:=by
    have:c1=lz s u:=hg.symm
    rw[this,HD ho,hc]
   subst hc1
   have hn2:c1.n=s.b:=by rw[hc]
   exact⟨⟨aa,aa,bP (by decide),by decide,by decide,aa,aa⟩,aa,0,⟨Nat.zero_le _,ho⟩,[(0,8192),(1,86016)],rfl,rfl,rfl,fV rfl aa aa (bG rfl rfl (gz ⟨aM,aM,⟨rfl,jd aa⟩,trivial⟩) (aC trivial))⟩
 ·have hcm:c.m<2^28:=by rw[hc];dsimp only;omega
  simp only[ah.all,aA,bq,bw,bn,Nat.add_zero]
  refine⟨fun h=>?_,fun h=>⟨rfl,j,⟨aa,hin⟩,[(0,0),(1,1),(2,2)],rfl,rfl,rfl,bk (bG rfl rfl (qP rfl rfl rfl) (aC trivial))⟩⟩
  (repeat' with_reducible refine And.intro ?_ ?_)
  all_goals first|omega|exact Nat.le_refl _|skip
  exact⟨j+1,⟨aa,hin⟩,by dsimp only;omega,[(0,0),(1,1),(2,40963)],rfl,rfl,rfl,bJ rfl rfl rfl (fun i hi=>pM (g:=fun j=>bh (dU (c.f j)) sE) (fun _ _=>⟨rfl,rfl⟩) rfl (.refl _) hi) (bG rfl rfl (qP rfl rfl rfl) (aC trivial))⟩
 ·subst hj
  refine au.gr ((aH.fin hT Pe hm 60 aam ag ?_).mono fun _ _ h=>.inl h)
  simp only[ah.all,aA]
  have hE:cX s.a s.ku u=0:=by unfold cX;rw[if_neg hin]
  exact⟨⟨aa,aa⟩,aa,by rw[show wA s u=⟨s.v,s.b,s.kv,s.m,fun j=>dU (gu (cC s j) u)⟩from if_neg hin,hc];exact .refl _,bK hE.symm,trivial⟩
theorem afx:aW P Tl De:=ck fun⟨s,u,_⟩ K hn=>aay hn K
theorem Nk:aT P Mq mV (ay mV):=aU Proofs.Tryz.func252 ag ag ag
def tn:bf:=nG::(tc,qu)::(E5,Lx)::iR
abbrev oO (p:Nat) (x:Nat->Rat) (s:Nat->Nat):aE:=[(1,kz (p+1) x s),(0,zO)]
abbrev He:Code:=ay mV
abbrev rG:Code:=part He [1,1,1,1,0,1,0,0]
abbrev xI:Code:=part rG [1,1,0,0]
abbrev sB:Nat:=536870912
theorem ze:bu P tn:=cz (aI Ap (aI Tq jU))
def iF (n:Nat) (k:Nat->Rat) (p m l:Nat) (i:Int):Int:=if(m:Int)≠(n:Int)-p-1\/l≠p then 1 else if i<p\/(m:Int)<=i\/k (i.toNat+1)<=k i.toNat then 7 else 0
def nk (n:Nat) (k:Nat->Rat) (p m:Nat) (c:Nat->Rat) (i:Int) (l:Nat) (a:Nat->Rat):Rat:=if iF n k p m l i=0 then bR k (i.toNat-p) p a (fun j=>c (i.toNat-p+j)) p p else 0
abbrev Rv (n:Nat) (k:Nat->Rat) (p m:Nat) (c:Nat->Rat) (i:Int) (l:Nat) (a:Nat->Rat):AV:=.tuple [.rat (nk n k p m c i l a) sB,.int .i64 (iF n k p m l i)]
theorem amL {n p m l:Nat} {k c a:Nat->Rat} {i e:Int} (h:iF n k p m l i=e) (he:e≠0):fj [.agg [.bool false,.mag 0,.mag 0],.int .i64 e] (Rv n k p m c i l a):=
 ⟨by unfold nk;rw[if_neg (by rw[h];exact he)];exact kG,bK h.symm,trivial⟩
theorem N7 {n p m l:Nat} {k:Nat->Rat} {i:Int} (h:(m:Int)≠(n:Int)-p-1\/l≠p):iF n k p m l i=1:=if_pos h
theorem KJ {n p m l:Nat} {k:Nat->Rat} {i:Int} (h:(m:Int)=(n:Int)-p-1) (hl:l=p) (h2:i<p\/(m:Int)<=i\/k (i.toNat+1)<=k i.toNat):iF n k p m l i=7:=by
 unfold iF;rw[if_neg aa,if_pos h2]
theorem Dp {n p m l:Nat} {k:Nat->Rat} {i:Int} (h:(m:Int)=(n:Int)-p-1) (hl:l=p) (h2:¬(i<p\/(m:Int)<=i\/k (i.toNat+1)<=k i.toNat)):iF n k p m l i=0:=by
 unfold iF;rw[if_neg aa,if_neg h2]
def lK (k:Nat->Rat) (b p r:Nat) (t:Rat) (x:Nat->Rat) (j i:Nat):Rat:=if i<=j then x i else iA k b p r t x i
def jW (r j i:Nat):Nat:=if i<=j then SB r else SB (r+1)
theorem U5 {rl:List (Nat×Nat)} {k:Nat->Rat} {b p r j i s:Nat} {t:Rat} {x:Nat->Rat} (hj:r<j) (hs:s<=SB (r+1)):
  eZ rl (.rat (bif i==j then lK k b p r t x j (j-1)+fr (k (b+j)) (k (b+j+(p-r))) t*(lK k b p r t x j j-lK k b p r t x j (j-1))else lK k b p r t x j i) (bif i==j then s else jW r j i)) (.rat (lK k b p r t x (j-1) i) (jW r (j-1) i)):=by
 refine .inr ⟨rfl,?_⟩
 by_cases h:i=j
 ·subst h
  simp only[beq_self_eq_true,cond_true]
  refine bO ?_ ?_
  ·unfold lK
   rw[if_pos aa,if_pos aa,if_neg aa]
   unfold iA
   rw[if_pos hj]
  ·unfold jW
   rw[if_neg aa];exact hs
 ·have hb:(i==j)=false:=by simpa using h
  rw[hb]
  refine bO ?_ ?_
  ·simp only[cond_false]
   unfold lK
   by_cases h2:i<=j
   ·rw[if_pos h2,if_pos aa]
   ·rw[if_neg h2,if_neg aa]
  ·simp only[cond_false]
   unfold jW
   by_cases h2:i<=j
   ·rw[if_pos h2,if_pos aa];exact Nat.le_refl _
   ·rw[if_neg h2,if_neg aa];exact Nat.le_refl _
theorem PS {k:Nat->Rat} {b p r i:Nat} {t:Rat} {x:Nat->Rat}:lK k b p r t x r i=iA k b p r t x i:=by
 unfold lK
 split
 ·unfold iA;rw[if_neg aa]
 ·rfl
end Go.Am.B
