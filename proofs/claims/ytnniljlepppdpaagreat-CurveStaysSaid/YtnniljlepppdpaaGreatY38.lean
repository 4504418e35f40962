/- gd.Check, ref08.Check. -/
import Derived.Test.YtnniljlepppdpaaGreatY37
import Derived.Test.YtnniljlepppdpaaGreatZ2
set_option linter.unusedVariables false
noncomputable section
namespace Go.Am.B
open Go Go.Am.N AV ah aq IntKind
theorem Ux:aR P xe uR (az uR):=aS Proofs.Tryz.func92 ag ag ag
def Bs:aX:=(A6,Nv)::(Cm,Gk)::(u9,CN)::tD
abbrev yc:Code:=az uR
abbrev rR:List Nat:=[0,1,4,48,49,50]
abbrev GJ (n:Nat) (k:Nat->Rat) (p:Int) (d:Nat) (f:Nat->Rat) (i:Nat):List AV:=[bD k n sJ,.int .i64 p,.int .i64 0,bD f d sK,.int .i64 d,.int .i64 i]
theorem agf {n:Nat} {k:Nat->Rat} {p:Int}:aI T Bs [18,15,22,29,35,46] 60 rR (before yc [1,1,1,0,1]) ⟨aP 0 [bD k n sJ,.int .i64 p],[],0⟩=
  let c16:Int:=(↑n:Int);let c15:Prop:=bT (fun i=>rat (k i) sJ) n sK;let c14:Nat:=Int.toNat (0:Int);let c13:Nat:=cC (fun i=>aV (rat (k i) sJ)) n;let c11:Bool:=decide (p<(1:Int));let c10:Int:=i64.wrap (i64.wrap ((2:Int)*p)+(2:Int));let c9:Prop:=n<2^40;let c7:List AV:=[tuple [],tuple [],tuple []];let c6:Bool:=!qQ (tq n fun i=>aV (rat (k i) sJ));let c3:AV:=ak 3 n fun i=>rat (k i) 4000;let c12:List AV:=c3::int i64 p::int i64 1::c7;let c8:Int:=i64.wrap (i64.wrap (c16-p)-(1:Int));let c5:Int:=i64.wrap (c16-(1:Int));let c4:ah (List AV×aF):=leaf ret (c3::int i64 p::int i64 5::c7,[]);let c2:ah (List AV×aF):=aj [bT (fun i=>rat (k i) sJ) n sJ,c9] (leaf normal ([c3,int i64 p,int i64 0,ak 3 c13 fun i=>rat (eo (fun i=>aV (rat (k i) sJ)) n i) 4096,int i64 (↑c13:Int),int i64 0],[]));let c1:ah (List AV×aF):=fork (decide (c16<c10)) c4 (fork (decide (c8>(40:Int))) (leaf ret (c3::int i64 p::int i64 2::c7,[])) (fork c6 (aj [c15,c9,c6=true] (fork true c4 c2)) (aj [c15,c9,c6=false,(0:Int)<=(0:Int)/\c14<n,(0:Int)<=c5/\c5.toNat<n] (fork (bif false then true else decide (k c14=k c5.toNat)) c4 c2))));some (fork c11 (aj [c11=true] (fork true (leaf ret (c12,[])) c1)) (aj [c11=false] (fork (bif false then true else decide (p>(6:Int))) (leaf ret (c12,[])) c1))):=ag
theorem Vp {n d i:Nat} {k f:Nat->Rat} {p:Int}:aI T Bs [51,62,73,79,82,87] 60 rR [part yc [1,1,1,0,1,0,0]] ⟨aE rR (GJ n k p d f i),[],1⟩=
  let c18 : Int := (↑d : Int); let c16 : Prop := false = false; let c13 : Int := (↑i : Int); let c12 : Prop := 0 < 1; let c11 : AV := ak 3 d fun i => rat (f i) 4096; let c10 : AV := ak 3 n fun i => rat (k i) 4000; let c9 : Int := i64.wrap ((↑n : Int) - (1 : Int)); let c8 : Nat := Int.toNat (0 : Int); let c17 : Prop := (0 : Int) <= (0 : Int) /\ c8 < n; let c14 : List AV := [c11, int i64 c18, int i64 c13]; let c7 : Rat := f c13.toNat; let c1 : ah (List AV × aF) := leaf normal ([c10, int i64 p, int i64 (0 : Int), c11, int i64 c18, int i64 (i64.wrap (c13 + (1 : Int)))], []); let c15 : Bool := decide (c7 = k c8); let c4 : Int := (↑(bu (fun i => aV (rat (k i) sJ)) c7 n) : Int); let c3 : Bool := bif false then true else decide (c7 = k c9.toNat); let c2 : ah (List AV × aF) := leaf ret (c10 :: int i64 p :: int i64 (5 : Int) :: c14, []); let c6 : ah (List AV × aF) := fork (bif false then true else bif true then decide (c4 > p) else false) c2 c1; let c5 : Bool := bif true then c4 != i64.wrap (p + (1 : Int)) else false; some (fork (decide (c13 < c18)) (aj [(0 : Int) <= c13 /\ c13.toNat < d, c12] (aj [c12, bT (fun i => rat (k i) sJ) n sK, sK <= sK, n < 2 ^ 40] (fork c15 (aj [c12, c17, c15 = true] (fork true (fork c5 (aj [true = true, c5 = true] (fork true c2 c1)) (fork false (aj [true = true, c5 = false, (!true) = true] c6) (aj [true = true, c5 = false, (!true) = false] (fork false c2 c1)))) (fork false (aj [true = false, false = true] (fork true c2 c1)) (fork false (aj [true = false, c16, (!true) = true] c6) (aj [true = false, c16, (!true) = false] (fork false c2 c1)))))) (aj [c12, c17, c15 = false, c12, (0 : Int) <= c9 /\ c9.toNat < n] (fork c3 (fork c5 (aj [c3 = true, c5 = true] (fork true c2 c1)) (fork (!c3) (aj [c3 = true, c5 = false, (!c3) = true] c6) (aj [c3 = true, c5 = false, (!c3) = false] (fork false c2 c1)))) (fork false (aj [c3 = false, false = true] (fork true c2 c1)) (fork (!c3) (aj [c3 = false, c16, (!c3) = true] c6) (aj [c3 = false, c16, (!c3) = false] (fork false c2 c1))))))))) (leaf (exit 1) (c10 :: int i64 p :: int i64 (0 : Int) :: c14, []))) := ag
theorem ai9 {n d i:Nat} {k f:Nat->Rat} {p:Int}:cJ T Bs [] 60 uR [part yc [1,1,1,1]] ⟨aE rR (GJ n k p d f i),[],1⟩=
  some (leaf ret [int i64 0]):=ag
theorem Uc:bq P Bs:=aH abF (aH Q6 (aH J6 v9))
def uU (n:Nat) (p:Int):Prop:=1<=p/\p<=6/\2*p+2<=(n:Int)/\(n:Int)-p-1<=40
theorem amA {n:Nat} {k:Nat->Rat} {p:Int} (hn:n<2^40) (K:Nat):aD P xe K [bD k n sJ,.int .i64 p] [] (aK (.int .i64 (iu n k p)) []):=by
 refine gV (r:=aK (.int .i64 (iu n k p)) []) hT Uc hm Ux rfl aW rfl [1,1,1,0,1] (i:=1) (y:=part yc [1,1,1,0,1,0,0]) (z:=part yc [1,1,1,1]) ag ag ag (f1:=[18,15,22,29,35,46]) (f2:=[51,62,73,79,82,87]) (f3:=[]) 60 rR 1
  (fun i:Nat=>GJ n k p (cC k n) (eo k n) i) (fun _=>[]) (fun i=>i<=cC k n/\uU n p/\tq n k/\k 0≠k (n-1)/\∀j,j<i->¬lE n k p.toNat (eo k n j)) (fun _=>uU n p/\tX n k p.toNat) (fun i=>cC k n-i) (fun _=>⟨⟨_,agf,?_⟩,fun i ⟨h1,h2,h3,h4,h5⟩=>⟨_,Vp,?_⟩,fun i ⟨h1,h2⟩=>⟨_,ai9,?_⟩⟩) K []
 ·have r:∀{e:Int} {u:AV},iu n k p=e->oZ uR rR (.int .i64 (iu n k p)) ([u,.int .i64 p,.int .i64 e,.tuple [],.tuple [],.tuple []],[]):=fun h=>⟨[.int .i64 _],ag,bN h.symm⟩
  by_cases hp:1<=p/\p<=6
  ·have e1:i64.wrap (i64.wrap (2*p)+2)=2*p+2:=by rw[wrap_i64 (show-2^63<=2*p by omega) aa];exact wrap_i64 aa aa
   have e2:i64.wrap (i64.wrap ((n:Int)-p)-1)=(n:Int)-p-1:=by rw[wrap_i64 (show-2^63<=(n:Int)-p by omega) aa];exact wrap_i64 aa aa
   have e3:i64.wrap ((n:Int)-1)=(n:Int)-1:=wrap_i64 aa aa
   have e5:((n:Int)-1).toNat=n-1:=aa
   simp only[ah.all,aA,decide_eq_true_eq,decide_eq_false_iff_not,Bool.not_eq_true',Bool.not_eq_false',cond_true,cond_false,Int.toNat_natCast,Int.toNat_zero,xQ,e1,e2,e3,e5]
   (repeat' with_reducible first|refine And.intro ?_ ?_|intro _)
   all_goals first|exact absurd ‹true=false› (by decide)|exact absurd ‹false=true› (by decide)|omega|(exfalso;omega)|exact cz (by decide)|assumption|exact r (ai0 aa aa)|exact r (acJ aa aa aa)|exact r (Lb aa aa aa fun h=>alX ‹_› h.1)|exact r (Lb aa aa aa fun h=>h.2.1 ‹_›)|exact⟨0,⟨Nat.zero_le _,⟨aa,aa,aa,aa⟩,adC ‹_›,‹_›,fun j hj=>absurd hj (Nat.not_lt_zero j)⟩,ej.vals rfl⟩|skip
   skip
  ·simp only[ah.all,aA,decide_eq_true_eq,decide_eq_false_iff_not,Bool.not_eq_true',Bool.not_eq_false',cond_true,cond_false,Int.toNat_natCast]
   (repeat' with_reducible first|refine And.intro ?_ ?_|intro _)
   all_goals first|exact absurd ‹true=false› (by decide)|exact absurd ‹false=true› (by decide)|omega|(exfalso;omega)|exact r (aid aa)|skip
   skip
 ·obtain⟨q,rfl⟩:∃q:Nat,p=(q:Int):=⟨p.toNat,by have:=h2.1;omega⟩
  have hq:=h2
  unfold uU at hq
  have e1:i64.wrap ((q:Int)+1)=((q+1:Nat):Int):=by rw[wrap_i64 aa aa];rfl
  have e2:i64.wrap ((i:Int)+1)=((i+1:Nat):Int):=by rw[wrap_i64 aa (by have:=sL (k:=k) (n:=n);omega)];rfl
  have e3:i64.wrap ((n:Int)-1)=(n:Int)-1:=wrap_i64 aa aa
  have e5:((n:Int)-1).toNat=n-1:=aa
  simp only[Int.toNat_natCast]at h5
  have hd:=sL (k:=k) (n:=n)
  have r:∀{u v w x y:AV},lE n k q (eo k n i)->i<cC k n->oZ uR rR (.int .i64 (iu n k q)) ([u,v,.int .i64 5,w,x,y],[]):=fun h hi=>⟨[.int .i64 5],ag,bN (Lb aa aa aa fun hk=>hk.2.2 i hi (by rw[Int.toNat_natCast];exact h)).symm⟩
  have nx:¬lE n k q (eo k n i)->i<cC k n->∀j,j<i+1->¬lE n k q (eo k n j):=fun h hi j hj=>by
   by_cases he:j=i
   ·subst he;exact h
   ·exact h5 j aa
  simp only[ah.all,aA,decide_eq_true_eq,decide_eq_false_iff_not,Bool.not_eq_true',Bool.not_eq_false',cond_true,cond_false,Int.toNat_natCast,Int.toNat_zero,xQ,e1,e2,e3,e5,bne_iff_ne,bne_eq_false_iff_eq,ne_eq]
  obtain⟨c,hc⟩:∃c,bu k (eo k n i) n=c:=⟨_,rfl⟩
  have hc':bu (fun i=>k i) (eo k n i) n=c:=hc
  simp only[hc']
  have b1:eo k n i=k 0->c≠q+1->lE n k q (eo k n i):=fun h1 h2=>.inl ⟨.inl h1,by rw[hc];exact h2⟩
  have b2:eo k n i=k (n-1)->c≠q+1->lE n k q (eo k n i):=fun h1 h2=>.inl ⟨.inr h1,by rw[hc];exact h2⟩
  have b3:¬eo k n i=k 0->¬eo k n i=k (n-1)->q<c->lE n k q (eo k n i):=fun h1 h2 h3=>.inr ⟨fun h=>h.elim h1 h2,by rw[hc];exact h3⟩
  have g1:eo k n i=k 0->c=q+1->¬lE n k q (eo k n i):=by
   rintro h1 h2 (⟨_,h3⟩|⟨h3,_⟩)
   ·exact h3 (by rw[hc];exact h2)
   ·exact h3 (.inl h1)
  have g2:eo k n i=k (n-1)->c=q+1->¬lE n k q (eo k n i):=by
   rintro h1 h2 (⟨_,h3⟩|⟨h3,_⟩)
   ·exact h3 (by rw[hc];exact h2)
   ·exact h3 (.inr h1)
  have g3:¬eo k n i=k 0->¬eo k n i=k (n-1)->c<=q->¬lE n k q (eo k n i):=by
   rintro h1 h2 h3 (⟨h4,_⟩|⟨_,h4⟩)
   ·exact h4.elim h1 h2
   ·rw[hc]at h4;omega
  clear hc hc'
  (repeat' with_reducible first|refine And.intro ?_ ?_|intro _)
  all_goals first|exact absurd ‹true=false› (by decide)|exact absurd ‹false=true› (by decide)|omega|(exfalso;omega)|exact cz (by decide)|assumption|skip
  all_goals first
   |exact absurd ‹eo k n i=k (n-1)› ‹_›
   |exact⟨rfl,i,⟨h2,h3,h4,fun j hj=>h5 j aa⟩,ej.vals rfl⟩
   |exact r (b1 ‹_› aa) aa
   |exact r (b2 ‹_› aa) aa
   |exact r (b3 ‹¬_=k 0› ‹_› (by have:=of_decide_eq_true ‹decide _=true›;omega)) aa
   |exact⟨i+1,⟨aa,h2,h3,h4,nx (g1 ‹_› aa) aa⟩,by dsimp only;omega,ej.vals rfl⟩
   |exact⟨i+1,⟨aa,h2,h3,h4,nx (g2 ‹_› aa) aa⟩,by dsimp only;omega,ej.vals rfl⟩
   |exact⟨i+1,⟨aa,h2,h3,h4,nx (g3 ‹¬_=k 0› ‹_› (by have:=of_decide_eq_false ‹decide _=false›;omega)) aa⟩,by dsimp only;omega,ej.vals rfl⟩
 ·simp only[ah.all,aA]
  exact bN (aiM (by have:=h1;unfold uU at this;omega) (by have:=h1;unfold uU at this;omega) (by have:=h1;unfold uU at this;omega) h2).symm
def HS:Spec:=cI (kC (kL sJ) (kC kI kN)) (fun a=>.int .i64 (iu a.1.1 a.1.2 a.2.1)) fun a=>[a.1.1<2^40]
theorem T2:∀K args pre r,HS K args pre=some r->aD P xe K args pre r:=cL fun⟨⟨n,k⟩,p,_⟩ K hn=>amA hn K
open Go Go.Am.N AV
def fF:AV->Pl
 |.agg [.agg [x,y,z],w]=>⟨⟨aV x,aV y,aV z⟩,aV w⟩
 |_=>⟨⟨0,0,0⟩,0⟩
def fj (f:Nat->AV) (n s:Nat):Prop:=∀i,i<n->bF (f i) (bH (fF (f i)) s)
abbrev ja (f:Nat->Pl) (n s:Nat):AV:=.ak 12 n (fun i=>bH (f i) s)
theorem Jw {u v:Pl} {n k:Nat} (h:u=v) (hk:n<=k):bF (bH u n) (bH v k):=
 h▸ct ⟨mY rfl hk,bX rfl hk,trivial⟩
theorem ir {f:Nat->Pl} {n s s':Nat} (h:s<=s'):fj (fun i=>bH (f i) s) n s':=fun _ _=>Jw rfl h
def wA:AV->Option (Nat×(Nat->AV))
 |.ak 12 n f=>some (n,f)
 |.nil=>some (0,fun _=>.nil)
 |_=>none
theorem Xy {v:AV} {n s:Nat} {f:Nat->AV} (h:wA v=some (n,f)) (ha:fj f n s):bF v (ja (fun i=>fF (f i)) n s):=by
 unfold wA at h
 split at h
 ·simp only[ax,Prod.mk.injEq]at h
  obtain⟨rfl,rfl⟩:=h
  exact fG ha
 ·simp only[ax,Prod.mk.injEq]at h
  obtain⟨rfl,rfl⟩:=h
  exact ki aa
 ·simp at h
def wJ (s:Nat):Kind (Nat×(Nat->Pl)):=⟨fun v=>match wA v with
 |some (n,f)=>some ((n,fun i=>fF (f i)),[fj f n s])
 |none=>none,fun a=>ja a.2 a.1 s,fun {v a q} h hq=>by
  split at h
  ·rename_i h1
   simp only[ax,Prod.mk.injEq]at h
   obtain⟨rfl,rfl⟩:=h
   exact Xy h1 hq
  ·simp at h⟩
abbrev bG (h:Pl) (s:Nat):AV:=.agg [.rat h.n.x s,.rat h.n.y s,.rat h.n.z s,.rat h.d s]
def K2 (s:Nat):Kind Pl:=⟨fun v=>match v with
 |.agg [x,y,z,w]=>match jH x,jH y,jH z,jH w with
  |some (x,a),some (y,b),some (z,c),some (w,d)=>some (⟨⟨x,y,z⟩,w⟩,[a<=s,b<=s,c<=s,d<=s])
  |_,_,_,_=>none
 |_=>none,fun a=>bG a s,fun {v a q} h hq=>by
  split at h
  ·split at h
   ·rename_i h1 h2 h3 h4
    simp only[ax,Prod.mk.injEq]at h
    obtain⟨rfl,rfl⟩:=h
    exact ct ⟨(kV h1).trans (bX rfl hq.1),(kV h2).trans (bX rfl hq.2.1),(kV h3).trans (bX rfl hq.2.2.1),(kV h4).trans (bX rfl hq.2.2.2),trivial⟩
   ·simp at h
  ·simp at h⟩
structure Cu where
 p:Int
 n:Nat
 k:Nat->Rat
 m:Nat
 f:Nat->Pl
abbrev bQ (c:Cu) (s r:Nat):AV:=.agg [.int .i64 c.p,bD c.k c.n s,ja c.f c.m r]
def gY (s r:Nat):Kind Cu:=⟨fun v=>match v with
 |.agg [p,k,f]=>match kI.read p,(kL s).read k,(wJ r).read f with
  |some (p,q1),some ((n,k),q2),some ((m,f),q3)=>some (⟨p,n,k,m,f⟩,q1++(q2++q3))
  |_,_,_=>none
 |_=>none,fun a=>bQ a s r,fun {v a q} h hq=>by
  split at h
  ·split at h
   ·rename_i h1 h2 h3
    simp only[ax,Prod.mk.injEq]at h
    obtain⟨rfl,rfl⟩:=h
    obtain⟨q1,hq⟩:=eu.1 hq
    obtain⟨q2,q3⟩:=eu.1 hq
    exact ct ⟨kI.ok h1 q1,(kL s).ok h2 q2,(wJ r).ok h3 q3,trivial⟩
   ·simp at h
  ·simp at h⟩
structure Sf where
 u:Int
 v:Int
 a:Nat
 ku:Nat->Rat
 b:Nat
 kv:Nat->Rat
 n:Nat
 m:Nat
 f:Nat->Nat->Pl
theorem Il {rl:List (Nat×Nat)} {l i s s' s2:Nat} {x y:Nat->Pl} {t:AV} {z:AV} (hx:∀i,i<l->x i=y i) (ht:bF t (bH (y l) s')) (hk:keys t=[]) (h1:s<=s2) (h2:s'<=s2) (hi:i<l+1):
  gn rl (if i<l then bH (x i) s else nth [t] z (i-l+0)) (bH (y i) s2):=by
 by_cases h:i<l
 ·rw[if_pos h,hx i h];exact .inr ⟨rfl,Jw rfl h1⟩
 ·have:i=l:=aa
  subst this
  rw[if_neg h,Nat.sub_self]
  exact .inr ⟨hk,ht.trans (Jw rfl h2)⟩
open Go Go.Am.N AV ah aq IntKind
abbrev sH:Nat:=2147483648
abbrev sE:Nat:=4294967298
def EZ (h:Pl):V3:=⟨((1:Int):Rat)/h.d*h.n.x,((1:Int):Rat)/h.d*h.n.y,((1:Int):Rat)/h.d*h.n.z⟩
abbrev jN (h:Pl) (s:Nat):au:=⟨false,true,12,1,fun _=>bG h s⟩
def Zg (c:Cu) (x:Nat->Rat) (b j:Nat):Pl:=
 ⟨⟨cO j fun j=>x j*((c.f (b+j)).d*(c.f (b+j)).n.x),cO j fun j=>x j*((c.f (b+j)).d*(c.f (b+j)).n.y),cO j fun j=>x j*((c.f (b+j)).d*(c.f (b+j)).n.z)⟩,cO j fun j=>x j*(c.f (b+j)).d⟩
def jD (c:Cu) (t:Rat):Pl:=Zg c (vB c.k (bJ c.n c.k t) t c.p.toNat) (bJ c.n c.k t-c.p.toNat) (c.p.toNat+1)
def fu (c:Cu) (t:Rat):V3:=if cw c.n c.k t then⟨0,0,0⟩else EZ (jD c t)
structure SfW (s:Sf):Prop where
 ku:Kn s.a s.u.toNat s.ku
 kv:Kn s.b s.v.toNat s.kv
 u0:0<=s.u
 u6:s.u<=6
 v0:0<=s.v
 v6:s.v<=6
 a:s.a<2^30
 b:s.b<2^30
 n:(s.n:Int)=(s.a:Int)-s.u-1
 m:(s.m:Int)=(s.b:Int)-s.v-1
theorem akQ:aR P SF IT (az IT):=aS Proofs.Tryz.func182 ag ag ag
theorem amh:aR P qI A4 (az A4):=aS Proofs.Tryz.func154 ag ag ag
theorem Uf:aR P qh Bw (az Bw):=aS Proofs.Tryz.func83 ag ag ag
theorem Tv:aR P CQ uk (az uk):=aS Proofs.Tryz.func153 ag ag ag
theorem aec:aR P Ak Bq (az Bq):=aS Proofs.Tryz.func85 ag ag ag
theorem ac2:aR P CJ DK (az DK):=aS Proofs.Tryz.func74 ag ag ag
def bV (p:Pl):Pl:=⟨⟨p.d*p.n.x,p.d*p.n.y,p.d*p.n.z⟩,p.d⟩
def dX (h:Pl):Pl:=⟨⟨h.n.x/h.d,h.n.y/h.d,h.n.z/h.d⟩,h.d⟩
abbrev ri (f:Nat->Pl) (n s:Nat):AV:=.ak 12 n (fun i=>bG (f i) s)
abbrev dI (c:Cu) (s r:Nat):AV:=.agg [.int .i64 c.p,bD c.k c.n s,ri c.f c.m r]
def Ow:aX:=nG::fQ
def E8:aX:=nG::(SF,gX T Ow [] 80 IT)::fQ
abbrev yH:List Nat:=[2,3,12,13,14]
abbrev H7 (c:Cu) (r i:Nat):List AV:=[.ptr 0 0 3 0 [],.ptr 1 0 3 0 [],ja c.f c.m r,.int .i64 c.m,.int .i64 i]
abbrev Hu (c:Cu) (x w i:Nat):aF:=[(2,⟨true,true,12,i,fun j=>bG (bV (c.f j)) w⟩),(1,⟨false,true,3,1,fun _=>.agg [.int .i64 c.p,bD c.k c.n x,.own 2 12 0 i]⟩),(0,⟨false,true,3,1,fun _=>.agg [.int .i64 0,.nil,.nil]⟩)]
abbrev y7:Code:=az Bw
def MJ:aX:=nG::(vC,kH kR kR uM p8)::fQ
def SU (f:Nat->Pl) (x:Nat->Rat) (b j:Nat):Pl:=
 ⟨⟨cO j fun j=>x j*(f (b+j)).n.x,cO j fun j=>x j*(f (b+j)).n.y,cO j fun j=>x j*(f (b+j)).n.z⟩,cO j fun j=>x j*(f (b+j)).d⟩
def C4:aX:=nG::(D3,TM)::fQ
abbrev xz:List Nat:=[4,5,2,6,7,36,37,38]
abbrev FK (p i:Nat) (x:Nat->Rat) (j:Nat):List AV:=[.ptr 1 0 12 0 [],.int .i64 0,.ptr 0 0 3 0 [],.ptr 2 0 12 0 [],.int .i64 ((i:Int)-p),.ak 3 (p+1) (fun j=>.rat (x j) sV),.int .i64 ((p+1:Nat):Int),.int .i64 j]
abbrev qA (c:Cu) (r:Nat):au:=⟨false,true,3,1,fun _=>dI c sK r⟩
abbrev ur:Code:=az uk
def sD:AV->Pl
 |.agg [x,y,z,w]=>⟨⟨aV x,aV y,aV z⟩,aV w⟩
 |_=>⟨⟨0,0,0⟩,0⟩
def j5 (f:Nat->AV) (n s:Nat):Prop:=∀i,i<n->bF (f i) (bG (sD (f i)) s)
theorem W6 {v:AV} {n s:Nat} {f:Nat->AV} (h:wA v=some (n,f)) (ha:j5 f n s):bF v (ri (fun i=>sD (f i)) n s):=by
 unfold wA at h
 split at h
 ·simp only[ax,Prod.mk.injEq]at h
  obtain⟨rfl,rfl⟩:=h
  exact fG ha
 ·simp only[ax,Prod.mk.injEq]at h
  obtain⟨rfl,rfl⟩:=h
  exact ki aa
 ·simp at h
theorem abN {h:Pl} {s:Nat}:bS T MJ [] 80 A4 (az A4) ⟨aP 0 [bG h s],[],0⟩=
  let c8:Int:=(↑(3:Nat):Int);let c7:Int:=(↑(4:Nat):Int);let c5:Int:=(2:Int)^63;let c4:Prop:=s<2^42;let c2:Prop:=0<1;let c1:Int:=(0:Int)+(1:Int);let c6:Int:=c1+(1:Int);let c3:Prop:=(0:Int)<=(3:Int)/\(3:Int)<c7;some (aj [c3,c2,c4,(1:Nat)<2^42,c2] (aj [(0:Int)<=(0:Int)/\(0:Int)<c7,c2,c3,c2,c4,c4,(0:Int)<=(0:Int)/\(0:Int)<c8,c2] (aj [-c5<=c1/\c1<c5] (aj [(0:Int)<=c1/\c1<c7,c2,c3,c2,c4,c4,(0:Int)<=c1/\c1<c8,c2] (aj [-c5<=c6/\c6<c5] (aj [(0:Int)<=c6/\c6<c7,c2,c3,c2,c4,c4,(0:Int)<=c6/\c6<c8,c2] (aj [-c5<=c6+(1:Int)/\c6+(1:Int)<c5] (aj [c2,c2] (aj [c2] (leaf ret [agg [agg [rat (h.n.x/h.d) (s+s),rat (h.n.y/h.d) (s+s),rat (h.n.z/h.d) (s+s)],rat (h.d+0) (s+1+1)]])))))))))):=ag
theorem ady {c:Cu} {x r:Nat}:aI T E8 [] 60 yH (before y7 [1,1,0,1]) ⟨aP 0 [bQ c x r],[],0⟩=
  let c2:Prop:=0<1;let c1:AV:=agg [int i64 0,nil,nil];some (aj [c2,c2,c2] (aj [c2] (leaf normal ([ptr 4096 0 3 0 [],ptr 28672 0 3 0 [],ak 12 c.m fun i=>agg [agg [rat (c.f i).n.x r,rat (c.f i).n.y r,rat (c.f i).n.z r],rat (c.f i).d r],int i64 (↑c.m:Int),int i64 0],[((28672:Nat),aQ fun j=>if(j==0)=true then bt (agg ((c1.kids.set 0 (bt (int i64 c.p))).set 1 (bt (bD c.k c.n x))))else c1),((4096:Nat),aQ fun x=>c1)])))):=ag
theorem agd {c:Cu} {x r w i:Nat}:aI T E8 [15] 60 yH [part y7 [1,1,0,1,0,0]] ⟨aE yH (H7 c r i),Hu c x w i,3⟩=
  let c17:Int:=(↑c.m:Int);let c16:Int:=(↑(3:Nat):Int);let c15:AV:=own 2 12 0 i;let c14:AV:=ptr 1 0 3 0 [];let c13:AV:=ptr 0 0 3 0 [];let c12:Int:=(↑(4:Nat):Int);let c11:Int:=(↑i:Int);let c10:AV:=rat 0 1;let c7:Nat×au:=((0:Nat),aQ fun x=>agg [int i64 0,nil,nil]);let c5:AV:=ak 12 c.m fun i=>agg [agg [rat (c.f i).n.x r,rat (c.f i).n.y r,rat (c.f i).n.z r],rat (c.f i).d r];let c4:Int:=(2:Int)^63;let c3:Prop:=r<2^42;let c2:Int:=(0:Int)+(1:Int);let c1:Prop:=0<1;let c18:Int:=c11+(1:Int);let c9:AV:=agg [int i64 c.p,bD c.k c.n x,c15];let c8:Int:=c2+(1:Int);let c6:Pl:=c.f c11.toNat;some (fork (decide (c11<c17)) (aj [(0:Int)<=c11/\c11.toNat<c.m,c1] (aj [c1,c1,c1,(0:Int)<=(0:Int)/\(0:Int)<c16,c1,c1,c1,c3,c3,(0:Int)<=(0:Int)/\(0:Int)<c12,c1,-c4<=c2/\c2<c4,(0:Int)<=c2/\c2<c16,c1,c1,c1,c3,c3,(0:Int)<=c2/\c2<c12,c1,-c4<=c8/\c8<c4,(0:Int)<=c8/\c8<c16,c1,c1,c1,c3,c3,(0:Int)<=c8/\c8<c12,c1,-c4<=c8+(1:Int)/\c8+(1:Int)<c4,c1,c3,(1:Nat)<2^42,(0:Int)<=(3:Int)/\(3:Int)<c12,c1,c1,c1,c1,(1:Nat)*12<=2^24,(i+1)*((224:Nat)+1)*2<=2^47,c1] (aj [-c4<=c18/\c18<c4] (leaf normal ([c13,c14,c5,int i64 c17,int i64 c18],[(40963,au.mk true true 12 (i+1) fun i_1=>if i_1<i then bG (bV (c.f i_1)) w else nth [agg [rat (c6.d*c6.n.x) (r+r),rat (c6.d*c6.n.y) (r+r),rat (c6.d*c6.n.z) (r+r),rat (c6.d+0) (r+1+1)]] (agg [c10,c10,c10,c10]) (i_1-i+0)),((1:Nat),aQ fun j=>if(j==0)=true then agg (c9.kids.set 2 (bt (own (nat_lit 40962+1) 12 0 (i+1))))else c9),c7]))))) (leaf (exit 0) ([c13,c14,c5,int i64 c17,int i64 c11],[(2,au.mk true true 12 i fun j=>agg [rat ((c.f j).d*(c.f j).n.x) w,rat ((c.f j).d*(c.f j).n.y) w,rat ((c.f j).d*(c.f j).n.z) w,rat (c.f j).d w]),((1:Nat),aQ fun x_1=>agg [int i64 c.p,ak 3 c.n fun i=>rat (c.k i) x,c15]),c7]))):=ag
theorem age {c:Cu} {x r w i:Nat}:cJ T E8 [] 60 Bw [part y7 [1,1,1]] ⟨aE yH (H7 c r i),Hu c x w i,3⟩=
  let c1:Prop:=0<1;some (aj [c1,c1] (aj [c1] (leaf ret [agg [int i64 c.p,ak 3 c.n fun i=>rat (c.k i) x,ak 12 i fun i=>agg [rat ((c.f (i+0)).d*(c.f (i+0)).n.x) w,rat ((c.f (i+0)).d*(c.f (i+0)).n.y) w,rat ((c.f (i+0)).d*(c.f (i+0)).n.z) w,rat (c.f (i+0)).d w]]]))):=ag
theorem acv {c:Cu} {r:Nat} {t:Rat}:aI T C4 [25,34] 60 xz (before ur [1,1,1,1,0,1]) ⟨aP 0 [dI c sK r,.rat t sK],[],0⟩=
  let c16 : Nat := bJ c.n (fun i => aV (rat (c.k i) sK)) t; let c15 : Prop := cw c.n (fun i => aV (rat (c.k i) sK)) t; let c14 : AV := ptr 8192 0 12 0 []; let c13 : AV := ptr 16384 0 12 0 []; let c12 : AV := ptr 0 0 (bt (dI c sK r)).size 0 []; let c11 : AV := rat 0 1; let c10 : Prop := 0 < 1; let c8 : Bool := fe c.n (fun i => aV (rat (c.k i) sK)) t != (0 : Int); let c6 : Nat × au := ((0 : Nat), au.mk false true (bt (dI c sK r)).size 1 fun x => agg [int i64 c.p, ak 3 c.n fun i => rat (c.k i) 4096, ak 12 c.m fun i => agg [rat (c.f i).n.x r, rat (c.f i).n.y r, rat (c.f i).n.z r, rat (c.f i).d r]]); let c7 : Nat := if c15 then 0 else c.p.toNat + 1; let c5 : Int := if c15 then (0 : Int) else (↑c16 : Int) - (↑c.p.toNat : Int); let c4 : AV := agg [c11, c11, c11, c11]; let c9 : au := au.mk false true 12 1 fun x => c4; let c3 : Int := c5 + (↑c7 : Int); let c2 : ah (List AV × aF) := leaf normal ([c14, int i64 (0 : Int), c12, c13, int i64 c5, ak 3 c7 fun j => rat (vB (fun i => aV (rat (c.k i) sK)) c16 t c.p.toNat j) 268435456, int i64 (↑c7 : Int), int i64 (0 : Int)], [((16384 : Nat), c9), c6, ((8192 : Nat), c9)]); let c1 : ah (List AV × aF) := aj [c10] (leaf ret ([c14, int i64 (7 : Int), c12, c13, int i64 c5, tuple [], tuple [], tuple []], [((16384 : Nat), c9), c6, ((8192 : Nat), au.mk false true 12 1 fun j => if (j == 0) = true then bt (agg c4.kids) else c4)])); some (aj [c10, c10, c10, bT (fun i => rat (c.k i) sK) c.n sK, sK <= sK, Kn c.n c.p.toNat fun i => aV (rat (c.k i) sK), (0 : Int) <= c.p, c.p <= (6 : Int), c.n < 2 ^ 40] (fork c8 (aj [c8 = true] (fork true c1 c2)) (aj [c8 = false, -(2 : Int) ^ 63 <= c3 /\ c3 < (2 : Int) ^ 63, c10] (fork (bif false then true else decide (c3 > (↑c.m : Int))) c1 c2)))) := ag
theorem akK {c:Cu} {h:Pl} {p i j s r:Nat} {x:Nat->Rat}:aI T C4 [39] 60 xz [part ur [1,1,1,1,0,1,0,0]] ⟨aE xz (FK p i x j),[(2,jN h s),(1,jN ⟨⟨0,0,0⟩,0⟩ 1),(0,qA c r)],3⟩=
  let c29:Int:=(↑i:Int)-(↑p:Int);let c26:AV:=ptr 0 0 3 0 [];let c24:AV:=ptr 2 0 12 0 [];let c23:AV:=ptr 1 0 12 0 [];let c21:AV:=rat 0 1;let c20:Int:=(↑(p+1):Int);let c19:AV:=ak 3 (p+1) fun j=>rat (x j) 268435456;let c16:Int:=(↑j:Int);let c15:Bool:=0==0;let c10:Int:=(↑(4:Nat):Int);let c9:Int:=(0:Int)+(1:Int);let c8:Nat:=2^42;let c7:Prop:=0<1;let c6:Int:=(2:Int)^63;let c33:Prop:=sV+r<c8;let c32:Rat:=x c16.toNat;let c31:Int:=c16+(1:Int);let c28:Prop:=(0:Int)<=c9/\c9<c10;let c18:Prop:=(0:Int)<=(0:Int)/\(0:Int)<c10;let c4:List (Nat×au):=[((0:Nat),aQ fun x=>agg [int i64 c.p,ak 3 c.n fun i=>rat (c.k i) 4096,ak 12 c.m fun i=>agg [rat (c.f i).n.x r,rat (c.f i).n.y r,rat (c.f i).n.z r,rat (c.f i).d r]]),(1,au.mk false true 12 1 fun x=>agg [c21,c21,c21,c21])];let c3:Int:=c9+(1:Int);let c2:Int:=c29+c16;let c30:Pl:=c.f c2.toNat;let c27:Prop:=(0:Int)<=c3/\c3<c10;let c25:Prop:=-c6<=c2/\c2<c6;let c17:Prop:=(0:Int)<=c2/\c2.toNat<c.m;let c12:Int:=c3+(1:Int);let c22:Prop:=(0:Int)<=c12/\c12<c10;let c11:AV:=agg ((bG h s).kids.set (Int.toNat (0:Int)) (bt (j9 (h.n.x,s) (c32*c30.n.x,sV+r))));let c5:AV:=if c15=true then c11 else bG h s;let c13:AV:=agg (c5.kids.set c9.toNat (bt (j9 (h.n.y,s) (c32*c30.n.y,sV+r))));let c1:AV:=if c15=true then c13 else c5;let c14:AV:=agg (c1.kids.set c3.toNat (bt (j9 (h.n.z,s) (c32*c30.n.z,sV+r))));some (fork (decide (c16<c20)) (aj [(0:Int)<=c16/\c16.toNat<p+1,c7] (aj [c18,c7,c7,c7,c25,c17,c18,sV<c8,r<c8,s<c8,c33,c18,c7] (aj [-c6<=c9/\c9<c6] (aj [c28,c7,c7,c7,c25,c17,c28,sV<c8,r<c8,s<c8,c33,c28,c7] (aj [-c6<=c3/\c3<c6] (aj [c27,c7,c7,c7,c25,c17,c27,sV<c8,r<c8,s<c8,c33,c27,c7] (aj [-c6<=c12/\c12<c6] (aj [c22,c7,c7,c7,c25,c17,c22,sV<c8,r<c8,s<c8,c33,c22,c7] (aj [-c6<=c12+(1:Int)/\c12+(1:Int)<c6] (aj [-c6<=c31/\c31<c6] (leaf normal ([c23,int i64 0,c26,c24,int i64 c29,c19,int i64 c20,int i64 c31],(2,au.mk false true 12 1 fun j=>if(j==0)=true then agg ((if c15=true then c14 else c1).kids.set c12.toNat (bt (j9 (h.d,s) (c32*c30.d,sV+r))))else if(j==0)=true then c14 else if(j==0)=true then c13 else if(j==0)=true then c11 else bG h s)::c4)))))))))))) (leaf (exit 0) ([c23,int i64 0,c26,c24,int i64 c29,c19,int i64 c20,int i64 c16],(2,au.mk false true 12 1 fun x=>agg [rat h.n.x s,rat h.n.y s,rat h.n.z s,rat h.d s])::c4))):=ag
theorem aer {c:Cu} {h:Pl} {p i j s r:Nat} {x:Nat->Rat}:cJ T C4 [] 60 uk [part ur [1,1,1,1,1]] ⟨aE xz (FK p i x j),[(2,jN h s),(1,jN ⟨⟨0,0,0⟩,0⟩ 1),(0,qA c r)],3⟩=
  let c1:Prop:=0<1;some (aj [c1,c1] (aj [c1] (leaf ret [agg [rat h.n.x s,rat h.n.y s,rat h.n.z s,rat h.d s],int i64 0]))):=ag
theorem aiP:bq P Ow:=dg gm
theorem UH:bq P E8:=dg (aH (iJ hT aiP hm akQ _ _) gm)
theorem Ud:bq P MJ:=dg (aH (kT fun _ _ K hn=>Ci hn.1 hn.2 K) gm)
theorem NG:bq P C4:=dg (aH acE gm)
theorem wT {rl:List (Nat×Nat)} {l i:Nat} {f g:Nat->AV} {v z:AV} (hf:∀i,i<l->f i=g i/\keys (f i)=[]) (hk:keys v=[]) (hv:bF v (g l)) (hi:i<l+1):gn rl (if i<l then f i else nth [v] z (i-l+0)) (g i):=by
 by_cases h:i<l
 ·rw[if_pos h];exact cQ (hf i h).2 (hf i h).1
 ·have:i=l:=aa
  subst this
  rw[if_neg h,Nat.sub_self]
  exact .inr ⟨hk,hv⟩
theorem pS {rl:List (Nat×Nat)} {p:Int} {v:AV} {a b i:Nat} (hv:keys v=[]) (ht:v.isTuple=false) (h:bf rl b=some a):gn rl (.agg [.int .i64 p,v,.own a 12 0 i]) (.agg [.int .i64 p,v,.own b 12 0 i]):=
 jg ⟨⟨rfl,aL rfl⟩,⟨ht,aL hv⟩,⟨rfl,cT h rfl rfl⟩,trivial⟩
theorem xJ {h h':Pl} {s s':Nat} (e:h=h') (hs:s<=s'):bF (bG h s) (bG h' s'):=e▸ct ⟨bX rfl hs,bX rfl hs,bX rfl hs,bX rfl hs,trivial⟩
theorem GZ {h:Pl} {s w:Nat} (hs:s<2^40) (h1:s+s<=w) (h2:s+2<=w) (K:Nat):aD P qI K [bG h s] [] (aK (bH (dX h) w) []):=by
 refine bY (r:=aK (bH (dX h) w) []) hT Ud hm amh rfl aW rfl 80 abN (fun _=>?_) K []
 simp only[ah.all,aA]
 (repeat' with_reducible refine And.intro ?_ ?_)
 all_goals first|omega|skip
 exact ct ⟨ct ⟨bX rfl h1,bX rfl h1,bX rfl h1,trivial⟩,bX (Rat.add_zero _) aa,trivial⟩
theorem Rv {c:Cu} {x r w:Nat} (h1:r+r<=w) (h2:r+2<=w) (hw:w<2^40) (hn:c.n<2^40) (hm2:c.m<2^30) (K:Nat):aD P qh K [bQ c x r] [] (aK (.agg [.int .i64 c.p,bD c.k c.n x,ri (fun i=>bV (c.f i)) c.m w]) []):=by
 refine gV (r:=aK (.agg [.int .i64 c.p,bD c.k c.n x,ri (fun i=>bV (c.f i)) c.m w]) []) hT UH hm Uf rfl aW rfl [1,1,0,1] (i:=0) (y:=part y7 [1,1,0,1,0,0]) (z:=part y7 [1,1,1]) ag ag ag (f1:=[]) (f2:=[15]) (f3:=[]) 60 yH 3
  (fun i:Nat=>H7 c r i) (fun i=>Hu c x w i) (fun i=>i<=c.m) (fun i=>i=c.m) (fun i=>c.m-i) (fun _=>⟨⟨_,ady,?_⟩,fun i hi=>⟨_,agd,?_⟩,fun i hi=>⟨_,age,?_⟩⟩) K []
 ·simp only[ah.all,aA]
  exact⟨aa,aa,0,Nat.zero_le _,[(0,4096),(1,28672)],rfl,rfl,rfl,mA rfl aa aa (cD rfl rfl (jg ⟨⟨rfl,aL rfl⟩,⟨rfl,aL rfl⟩,⟨rfl,mW aa⟩,trivial⟩) (aM trivial))⟩
 ·set_option maxRecDepth 10000 in simp only[ah.all,aA,bh,bz,aZ,Nat.add_zero]
  refine⟨fun h=>⟨aa,aa,aa,i+1,aa,by dsimp only;omega,[(0,0),(1,1),(2,40963)],rfl,rfl,rfl,bZ rfl rfl rfl (fun j hj=>wT (g:=fun j=>bG (bV (c.f j)) w) (fun _ _=>⟨rfl,rfl⟩) rfl (ct ⟨bX rfl h1,bX rfl h1,bX rfl h1,bX (Rat.add_zero _) aa,trivial⟩) hj) (cD rfl rfl (pS rfl rfl rfl) (aM trivial))⟩,
   fun h=>⟨rfl,i,aa,[(0,0),(1,1),(2,2)],rfl,rfl,rfl,eG (cD rfl rfl (pS rfl rfl rfl) (aM trivial))⟩⟩
 ·subst hi
  simp only[ah.all,aA]
  exact⟨aa,aa,.refl _⟩
theorem akz {c:Cu} {r:Nat}:mo T uk .ret ⟨aE [4,5,2,6] [.ptr 8192 0 12 0 [],.int .i64 7,.ptr 0 0 3 0 [],.ptr 16384 0 12 0 []],[(16384,⟨false,true,12,1,fun _=>.agg [.rat 0 1,.rat 0 1,.rat 0 1,.rat 0 1]⟩),(0,qA c r),(8192,⟨false,true,12,1,fun j=>if(j==0)=true then bt (.agg (AV.kids (.agg [.rat 0 1,.rat 0 1,.rat 0 1,.rat 0 1])))else .agg [.rat 0 1,.rat 0 1,.rat 0 1,.rat 0 1]⟩)],16385⟩=
  let c1:AV:=rat 0 1;some (aj [(0:Nat)<1] (leaf ret [agg [c1,c1,c1,c1],int i64 7])):=ag
def pO (c:Cu) (t:Rat):Pl:=if cw c.n c.k t then⟨⟨0,0,0⟩,0⟩else SU c.f (vB c.k (bJ c.n c.k t) t c.p.toNat) (bJ c.n c.k t-c.p.toNat) (c.p.toNat+1)
theorem ac4 {c:Cu} {t:Rat} {r s:Nat} (hr:1+7*(sV+r+1)<=s) (hs:s<2^40) (hk:Kn c.n c.p.toNat c.k) (h0:0<=c.p) (h6:c.p<=6) (hn:c.n<2^40) (hm2:(c.m:Int)=(c.n:Int)-c.p-1) (K:Nat):aD P CQ K [dI c sK r,.rat t sK] [] (aK (.tuple [bG (pO c t) s,.int .i64 (fe c.n c.k t)]) []):=by
 refine iP (r:=aK (.tuple [bG (pO c t) s,.int .i64 (fe c.n c.k t)]) []) hT Tv rfl aW rfl (fun _ cx h00=>?_) K []
 have hkp:=qw h00
 obtain⟨q,hq⟩:∃q,q=c.p.toNat:=⟨_,rfl⟩
 have hq2:c.p=(q:Int):=aa
 obtain⟨i,hi⟩:∃i,i=bJ c.n c.k t:=⟨_,rfl⟩
 obtain⟨x,hx⟩:∃x,x=vB c.k i t q:=⟨_,rfl⟩
 have h1:sK=4096:=rfl
 have h2:sV=268435456:=rfl
 have z0:1+0*(sV+r+1)=1:=aa
 have zle:∀j,j<=7->1+j*(sV+r+1)<=s:=fun j hj=>by
  have:=Nat.mul_le_mul_right (sV+r+1) hj
  omega
 refine ay.ni hT NG hm (x:=ur) [1,1,1,1,0,1] (i:=0) (y:=part ur [1,1,1,1,0,1,0,0]) (z:=part ur [1,1,1,1,1]) ag ag ag Tv.dst hkp (f1:=[25,34]) (f2:=[39]) 60 xz 3 (fun j:Nat=>FK q i x j) (fun j=>[(2,jN (SU c.f x (i-q) j) (1+j*(sV+r+1))),(1,jN ⟨⟨0,0,0⟩,0⟩ 1),(0,qA c r)])
  (fun j=>j<=q+1/\¬cw c.n c.k t) (fun j=>j=q+1/\¬cw c.n c.k t) (fun j=>q+1-j) (FT T uk [4,5,2,6] (.tuple [bG (pO c t) s,.int .i64 (fe c.n c.k t)])) ⟨_,acv,?_⟩ (fun j ⟨hj,hin⟩=>⟨_,akK,?_⟩) (fun j ⟨hj,hin⟩=>?_) (fun v s' hv hs'=>hv.fin (L1:=[7,36,37,38]) hkp hs')
 ·simp only[ah.all,aA,xQ,bne_iff_ne,ne_eq,bne_eq_false_iff_eq]
  have hko:cw c.n (fun i=>c.k i) t=cw c.n c.k t:=rfl
  have hkE:fe c.n (fun i=>c.k i) t=fe c.n c.k t:=rfl
  have hkI:bJ c.n (fun i=>c.k i) t=bJ c.n c.k t:=rfl
  simp only[hko,hkE,hkI]
  refine⟨⟨aa,aa,aa,cz aY,aY,hk,h0,h6,hn⟩,fun hout=>⟨hout,fun _=>⟨aa,?_⟩,fun h=>absurd h (by decide)⟩,fun he=>?_⟩
  ·have ho:=LB hout
   refine⟨[_,_,_,_],_,16385,_,rfl,rfl,rfl,akz,rfl,⟨⟨aa,fun i _=>rfl⟩,⟨aa,fun i _=>rfl⟩,⟨aa,fun i _=>uV rfl rfl⟩,trivial⟩,Nat.zero_lt_one,?_⟩
   exact⟨xJ (h:=⟨⟨0,0,0⟩,0⟩) (by unfold pO;rw[if_pos ho]) aa,bN (by unfold fe;rw[if_pos ho]),trivial⟩
  ·have hin:=Nz he
   have hiv:=hk.qN hin
   simp only[if_neg hin]
   refine⟨⟨he,aa,aa⟩,fun h=>?_,fun _=>⟨0,⟨Nat.zero_le _,hin⟩,[(0,0),(1,8192),(2,16384)],rfl,?_,rfl,cD rfl rfl (cQ rfl (by rw[z0];rfl)) (aM (aM trivial))⟩⟩
   ·exfalso
    rw[cond_false,bh]at h
    omega
   ·show _=(FK q i x 0).map _
    rw[hx,hq,hi];rfl
 ·have hiv:=hk.qN hin
  rw[<-hi,<-hq]at hiv
  simp only[ah.all,aA,bh,bz,show((i:Int)-q+j).toNat=i-q+j by omega,aZ]
  refine⟨fun h=>?_,fun h=>⟨rfl,j,⟨aa,hin⟩,[(0,0),(1,1),(2,2)],rfl,rfl,rfl,aM (aM (aM trivial))⟩⟩
  have hz:=zle j aa
  have hzS:1+(j+1)*(sV+r+1)=1+j*(sV+r+1)+(sV+r+1):=by rw[Nat.add_mul,Nat.one_mul];omega
  have hz2:=zle (j+1) aa
  generalize 1+j*(sV+r+1)=zj at*
  (repeat' with_reducible refine And.intro ?_ ?_)
  all_goals first|omega|skip
  exact⟨j+1,⟨aa,hin⟩,by dsimp only;omega,[(0,0),(1,1),(2,2)],rfl,rfl,rfl,cD rfl rfl (.inr ⟨rfl,ct ⟨bX rfl aa,bX rfl aa,bX rfl aa,bX rfl aa,trivial⟩⟩) (aM (aM trivial))⟩
 ·subst hj
  refine ay.m8 ((aG.fin hT NG hm 60 aer ag ?_).mono fun _ _ h=>.inl h)
  simp only[ah.all,aA]
  have hz:=zle (q+1) aa
  refine⟨aa,aa,?_,bN (by unfold fe;rw[if_neg hin]),trivial⟩
  exact xJ (by unfold pO;rw[if_neg hin,<-hi,<-hq,<-hx]) hz
def qd (s r:Nat):Kind Cu:=⟨fun v=>match v with
 |.agg [p,k,f]=>match kI.read p,(kL s).read k,wA f with
  |some (p,q1),some ((n,k),q2),some (m,f)=>some (⟨p,n,k,m,fun i=>sD (f i)⟩,q1++(q2++[j5 f m r]))
  |_,_,_=>none
 |_=>none,fun a=>dI a s r,fun {v a q} h hq=>by
  split at h
  ·split at h
   ·rename_i h1 h2 h3
    simp only[ax,Prod.mk.injEq]at h
    obtain⟨rfl,rfl⟩:=h
    obtain⟨q1,hq⟩:=eu.1 hq
    obtain⟨q2,q3⟩:=eu.1 hq
    exact ct ⟨kI.ok h1 q1,(kL s).ok h2 q2,W6 h3 q3,trivial⟩
   ·simp at h
  ·simp at h⟩
def Mo:Spec:=cI (kC (gY sJ sJ) kN) (fun a=>dI ⟨a.1.p,a.1.n,a.1.k,a.1.m,fun i=>bV (a.1.f i)⟩ sJ (sJ+sJ)) fun a=>[a.1.n<2^40,a.1.m<2^30]
def QN:Spec:=cI (kC (qd sK (sJ+sJ)) (kC (fL sK) kN)) (fun a=>.tuple [bG (pO a.1 a.2.1) sH,.int .i64 (fe a.1.n a.1.k a.2.1)]) fun a=>[Kn a.1.n a.1.p.toNat a.1.k,0<=a.1.p,a.1.p<=6,a.1.n<2^40,(a.1.m:Int)=(a.1.n:Int)-a.1.p-1]
def Nt:Spec:=cI (kC (K2 sH) kN) (fun a=>bH (dX a.1) sE) fun _=>[]
def dx (c:Cu):Prop:=Kn c.n c.p.toNat c.k/\1<=c.p/\c.p<=6/\c.n<=c.p.toNat+41/\(c.m:Int)=(c.n:Int)-c.p-1
def QW:aX:=nG::(xe,HS)::(tF,uj)::[]
def Cx:Spec:=cI (kC (gY sJ sJ) kN) (fun _=>.bool true) fun a=>[dx a.1]
def NC:aX:=nG::(Ak,Cx)::(qh,Mo)::(CQ,QN)::(qI,Nt)::[]
theorem UA {c:Cu}:bS T QW [100009] 60 Bq (az Bq) ⟨aP 0 [bQ c sJ sJ],[],0⟩=
  let c2:Prop:=c.n<2^40;let c1:Prop:=0<1;some (aj [c1,c1,bT (fun i=>rat (c.k i) sJ) c.n sJ,c2,(iu c.n (fun i=>aV (rat (c.k i) sJ)) c.p==(0:Int))=true,c1,c1,c1,bT (fun i=>rat (c.k i) sJ) c.n sK,c2,-(2:Int)^40<c.p,c.p<(2:Int)^40] (leaf ret [AV.bool (bif true then(↑c.m:Int)==(↑c.n:Int)-c.p-(1:Int)else false)])):=ag
theorem ahV {c:Cu} {t:Rat}:bS T NC [20] 60 DK (az DK) ⟨aP 0 [bQ c sJ sJ,.rat t sK],[],0⟩=
  let c7 : Prop := c.n < 2 ^ 40; let c6 : Prop := fj (fun i => bH (c.f i) sJ) c.m sJ; let c5 : Prop := bT (fun i => rat (c.k i) sJ) c.n sJ; let c4 : AV := rat 0 1; let c3 : Int := fe c.n (fun i => aV (rat (aV (rat (c.k i) sJ)) sJ)) t; let c2 : Prop := 0 < 1; let c1 : Pl := pO (Cu.mk c.p c.n (fun i => aV (rat (aV (rat (c.k i) sJ)) sJ)) c.m fun i => sD (bG (bV (fF (bH (c.f i) sJ))) (sJ + sJ))) t; some (aj [c2, c5, c6, dx (Cu.mk c.p c.n (fun i => aV (rat (c.k i) sJ)) c.m fun i => fF (bH (c.f i) sJ))] (aj [c2, c5, c6, c7, c.m < 2 ^ 30, c2, bT (fun i => rat (aV (rat (c.k i) sJ)) sJ) c.n sK, j5 (fun i => bG (bV (fF (bH (c.f i) sJ))) (sJ + sJ)) c.m (sJ + sJ), sK <= sK, Kn c.n c.p.toNat fun i => aV (rat (aV (rat (c.k i) sJ)) sJ), (0 : Int) <= c.p, c.p <= (6 : Int), c7, (↑c.m : Int) = (↑c.n : Int) - c.p - (1 : Int), c2] (fork (c3 != (0 : Int)) (aj [c2] (aj [c2] (leaf ret [agg [c4, c4, c4], int i64 c3]))) (aj [c2, sH <= sH, sH <= sH, sH <= sH, sH <= sH, c2] (aj [c2] (leaf ret [agg [rat (c1.n.x / c1.d) 4294967298, rat (c1.n.y / c1.d) 4294967298, rat (c1.n.z / c1.d) 4294967298], int i64 (0 : Int)])))))) := ag
theorem ali:∀K args pre r,Mo K args pre=some r->aD P qh K args pre r:=cL fun⟨c,_⟩ K hn=>Rv aY (by decide) (by decide) hn.1 hn.2 K
theorem ZV:∀K args pre r,QN K args pre=some r->aD P CQ K args pre r:=cL fun⟨c,t,_⟩ K hn=>ac4 (by decide) (by decide) hn.1 hn.2.1 hn.2.2.1 hn.2.2.2.1 hn.2.2.2.2 K
theorem aja:∀K args pre r,Nt K args pre=some r->aD P qI K args pre r:=cL fun⟨h,_⟩ K _=>GZ (by decide) (by decide) (by decide) K
theorem akR:bq P QW:=dg (aH T2 (aH yG bC))
theorem Gh:∀K args pre r,Cx K args pre=some r->aD P Ak K args pre r:=cL fun⟨c,_⟩ K hn=>by
 obtain⟨h1,h2,h3,h4,h5⟩:dx c:=hn
 refine bY (r:=aK (.bool true) []) hT akR hm aec rfl aW rfl 60 UA (fun _=>?_) K []
 have hc0:iu c.n c.k c.p=0:=by have:=h1.Nu aa h4;rwa [Int.toNat_of_nonneg aa]at this
 simp only[ah.all,aA]
 exact⟨⟨aa,aa,cz aY,aa,beq_iff_eq.2 hc0,aa,aa,aa,cz (by decide),aa,aa,aa⟩,gA (beq_iff_eq.2 h5)⟩
theorem acd:bq P NC:=dg (aH Gh (aH ali (aH ZV (aH aja bC))))
theorem div_one {a b:Rat}:a/b=((1:Int):Rat)/b*a:=by
 rw[Rat.div_def,Rat.div_def,show((1:Int):Rat)=1 from rfl,Rat.one_mul,Rat.mul_comm]
theorem Zm {h:Pl}:(dX h).n=EZ h:=by
 show V3.mk (h.n.x/h.d) (h.n.y/h.d) (h.n.z/h.d)=V3.mk _ _ _
 rw[div_one (a:=h.n.x),div_one (a:=h.n.y),div_one (a:=h.n.z)]
def I7:Spec:=cI (kC (gY sJ sJ) (kC (fL sK) kN)) (fun a=>.tuple [vA (fu a.1 a.2.1) sE,.int .i64 (fe a.1.n a.1.k a.2.1)]) fun a=>[dx a.1]
theorem LN:∀K args pre r,I7 K args pre=some r->aD P CJ K args pre r:=cL fun⟨c,t,_⟩ K hn=>by
 have hc:dx c:=hn
 obtain⟨h1,h2,h3,h4,h5⟩:=id hc
 refine bY (r:=aK (.tuple [vA (fu c t) sE,.int .i64 (fe c.n c.k t)]) []) hT acd hm ac2 rfl aW rfl 60 ahV (fun _=>?_) K []
 have e1:fe c.n (fun i=>aV (rat (aV (rat (c.k i) sJ)) sJ)) t=fe c.n c.k t:=rfl
 simp only[ah.all,aA,e1,bne_iff_ne,ne_eq,bne_eq_false_iff_eq]
 refine⟨⟨aa,cz aY,ir aY,hc⟩,⟨aa,cz aY,ir aY,aa,aa,aa,cz (by decide),fun _ _=>.refl _,aY,h1,aa,h3,aa,h5,aa⟩,fun hout=>⟨aa,aa,?_⟩,fun hin=>⟨⟨aa,aY,aY,aY,aY,aa⟩,aa,?_⟩⟩
 ·refine⟨mY (u:=⟨0,0,0⟩) (by unfold fu;rw[if_pos (LB hout)]) (by decide),.refl _,trivial⟩
 ·have ho:=Nz hin
  refine⟨mY (u:=(dX (pO ⟨c.p,c.n,c.k,c.m,fun i=>bV (c.f i)⟩ t)).n) ?_ (by decide),bN hin.symm,trivial⟩
  rw[Zm]
  unfold fu pO
  rw[if_neg ho,if_neg ho];rfl
theorem Om:aR P JU mS (az mS):=aS Proofs.Tryz.func252 ag ag ag
def ug:aX:=nG::(tF,uj)::(Fp,ID)::fQ
abbrev C3:Code:=az mS
abbrev rV:Code:=part C3 [1,1,1,1,0,1,0,0]
abbrev Av:Code:=part rV [1,1,0,0]
abbrev sB:Nat:=536870912
theorem xX:bq P ug:=dg (aH yG (aH SV gm))
def gZ (n:Nat) (k:Nat->Rat) (p m l:Nat) (i:Int):Int:=if(m:Int)≠(n:Int)-p-1\/l≠p then 1 else if i<p\/(m:Int)<=i\/k (i.toNat+1)<=k i.toNat then 7 else 0
def lN (n:Nat) (k:Nat->Rat) (p m:Nat) (c:Nat->Rat) (i:Int) (l:Nat) (a:Nat->Rat):Rat:=if gZ n k p m l i=0 then bR k (i.toNat-p) p a (fun j=>c (i.toNat-p+j)) p p else 0
abbrev R7 (n:Nat) (k:Nat->Rat) (p m:Nat) (c:Nat->Rat) (i:Int) (l:Nat) (a:Nat->Rat):AV:=.tuple [.rat (lN n k p m c i l a) sB,.int .i64 (gZ n k p m l i)]
theorem U1 {n p m l:Nat} {k c a:Nat->Rat} {i e:Int} (h:gZ n k p m l i=e) (he:e≠0):en [.agg [.bool false,.mag 0,.mag 0],.int .i64 e] (R7 n k p m c i l a):=
 ⟨by unfold lN;rw[if_neg (by rw[h];exact he)];exact mc,bN h.symm,trivial⟩
theorem N5 {n p m l:Nat} {k:Nat->Rat} {i:Int} (h:(m:Int)≠(n:Int)-p-1\/l≠p):gZ n k p m l i=1:=if_pos h
theorem Ke {n p m l:Nat} {k:Nat->Rat} {i:Int} (h:(m:Int)=(n:Int)-p-1) (hl:l=p) (h2:i<p\/(m:Int)<=i\/k (i.toNat+1)<=k i.toNat):gZ n k p m l i=7:=by
 unfold gZ;rw[if_neg aa,if_pos h2]
theorem wW {n p m l:Nat} {k:Nat->Rat} {i:Int} (h:(m:Int)=(n:Int)-p-1) (hl:l=p) (h2:¬(i<p\/(m:Int)<=i\/k (i.toNat+1)<=k i.toNat)):gZ n k p m l i=0:=by
 unfold gZ;rw[if_neg aa,if_neg h2]
def nv (k:Nat->Rat) (b p r:Nat) (t:Rat) (x:Nat->Rat) (j i:Nat):Rat:=if i<=j then x i else gD k b p r t x i
def nJ (r j i:Nat):Nat:=if i<=j then SB r else SB (r+1)
theorem ah1 {rl:List (Nat×Nat)} {k:Nat->Rat} {b p r j i s:Nat} {t:Rat} {x:Nat->Rat} (hj:r<j) (hs:s<=SB (r+1)):
  gn rl (.rat (bif i==j then nv k b p r t x j (j-1)+fr (k (b+j)) (k (b+j+(p-r))) t*(nv k b p r t x j j-nv k b p r t x j (j-1))else nv k b p r t x j i) (bif i==j then s else nJ r j i)) (.rat (nv k b p r t x (j-1) i) (nJ r (j-1) i)):=by
 refine .inr ⟨rfl,?_⟩
 by_cases h:i=j
 ·subst h
  simp only[beq_self_eq_true,cond_true]
  refine bX ?_ ?_
  ·unfold nv
   rw[if_pos aa,if_pos aa,if_neg aa]
   unfold gD
   rw[if_pos hj]
  ·unfold nJ
   rw[if_neg aa];exact hs
 ·have hb:(i==j)=false:=by simpa using h
  rw[hb]
  refine bX ?_ ?_
  ·simp only[cond_false]
   unfold nv
   by_cases h2:i<=j
   ·rw[if_pos h2,if_pos aa]
   ·rw[if_neg h2,if_neg aa]
  ·simp only[cond_false]
   unfold nJ
   by_cases h2:i<=j
   ·rw[if_pos h2,if_pos aa];exact Nat.le_refl _
   ·rw[if_neg h2,if_neg aa];exact Nat.le_refl _
theorem akY {k:Nat->Rat} {b p r i:Nat} {t:Rat} {x:Nat->Rat}:nv k b p r t x r i=gD k b p r t x i:=by
 unfold nv
 split
 ·unfold gD;rw[if_neg aa]
 ·rfl
abbrev lJ (m:Nat) (c:Nat->Rat):au:=⟨true,true,3,m,fun i=>.rat (c i) sK⟩
abbrev pE:List Nat:=[10,11,2,4,0,1,3,12,66,67,68]
abbrev uD (n:Nat) (k:Nat->Rat) (p m:Nat) (a:Nat->Rat) (i:Nat) (r:Nat):List AV:=[.ptr 1 0 3 0 [],.int .i64 0,.own 0 3 0 m,ls a p,ls k n,.int .i64 p,.int .i64 i,.own 2 3 0 (p+1),ls a p,.int .i64 p,.int .i64 r]
abbrev ou (p m:Nat) (c:Nat->Rat) (x:Nat->Rat) (s:Nat->Nat):aF:=[(2,lH (p+1) x s),(1,zO),(0,lJ m c)]
abbrev zM:List Nat:=[10,11,2,4,0,1,3,12,66,67,68,13,14,15]
abbrev Kk (n:Nat) (k:Nat->Rat) (p m:Nat) (a:Nat->Rat) (i:Nat) (r j:Nat):List AV:=[.ptr 1 0 3 0 [],.int .i64 0,.own 0 3 0 m,ls a p,ls k n,.int .i64 p,.int .i64 i,.own 2 3 0 (p+1),ls a p,.int .i64 p,.int .i64 r,.int .i64 r,.ptr 3 0 3 0 [],.int .i64 j]
theorem aeD {n m p l:Nat} {k c a:Nat->Rat} {i:Int}:aI T ug [18,25,36,42,32] 60 pE (before C3 [1,1,1,1,0,1]) ⟨aP 0 [ls k n,.int .i64 p,.own 0 3 0 m,.int .i64 i,ls a l],[(0,lJ m c)],1⟩=
  let c28 : Prop := n < 2 ^ 40; let c27 : Prop := sK < 2 ^ 42; let c26 : Prop := bT (fun i => rat (k i) sK) n sK; let c25 : AV := own 0 3 0 m; let c24 : Int := i + (1 : Int); let c23 : AV := ak 3 n fun i => rat (k i) 4096; let c20 : Int := (2 : Int) ^ 40; let c19 : AV := rat 0 1; let c17 : Nat × au := ((0 : Nat), au.mk true true 3 m fun i => rat (c i) 4096); let c15 : AV := ptr 1 0 3 0 []; let c14 : AV := ak 3 l fun i => rat (a i) 4096; let c13 : Int := (2 : Int) ^ 63; let c12 : Int := (↑m : Int); let c5 : Int := (↑p : Int); let c21 : Bool := decide (i < c5); let c18 : Bool := c12 != (↑n : Int) - c5 - (1 : Int); let c16 : Bool := bif false then true else decide (i >= c12); let c11 : Int := c5 + (1 : Int); let c10 : Int := e9 (k i.toNat) (k c24.toNat); let c8 : List AV := [c25, c14, c23, int i64 c5, int i64 i, tuple [], tuple [], tuple [], tuple []]; let c7 : List Prop := [(0 : Int) <= i /\ i.toNat < n, -c13 <= c24 /\ c24 < c13, (0 : Int) <= c24 /\ c24.toNat < n, c27, c27]; let c6 : List (Nat × au) := [c17, ((1 : Nat), aQ fun j => if (j == 0) = true then bt (agg c19.kids) else c19)]; let c22 : Bool := bif false then true else decide (c10 >= (0 : Int)); let c9 : Nat := 0 + Min.min (c12.toNat - (i - c5).toNat) c11.toNat; let c4 : ah (List AV × aF) := aj [(0 : Nat) < 1] (leaf ret (c15 :: int i64 (1 : Int) :: c8, c6)); let c2 : ah (List AV × aF) := aj [(0 : Nat) < 1] (leaf ret (c15 :: int i64 (7 : Int) :: c8, c6)); let c1 : ah (List AV × aF) := aj [-c13 <= c11 /\ c11 < c13, (0 : Int) <= c11 /\ c11 <= c11 /\ c11 <= (2 : Int) ^ 47 /\ c11 * (↑(56 : Nat) : Int) <= (2 : Int) ^ 47] (aj [-c13 <= i - c5 /\ i - c5 < c13, (0 : Int) <= i - c5 /\ i - c5 <= c12 /\ c12 <= c12 /\ c12 <= c12] (leaf normal ([c15, int i64 (0 : Int), c25, c14, c23, int i64 c5, int i64 i, own 163841 3 0 c11.toNat, c14, int i64 (↑l : Int), int i64 (0 : Int)], [((163841 : Nat), au.mk true true 3 c11.toNat fun i_1 => if 0 <= i_1 /\ i_1 < c9 then rat (c (i_1 - 0 + ((0 : Nat) + (i - c5).toNat))) sK else c19), c17, ((1 : Nat), aQ fun x => c19)]))); let c3 : ah (List AV × aF) := fork c21 (fork true (aj [c21 = true, true = true] (fork true c2 c1)) (aj ((c21 = true) :: (true = false) :: c7) (fork c22 c2 c1))) (fork c16 (aj [c21 = false, c16 = true] (fork true c2 c1)) (aj ((c21 = false) :: (c16 = false) :: c7) (fork c22 c2 c1))); some (fork c18 (aj [c26, c28, -c20 < c5, c5 < c20, c18 = true] (fork true c4 c3)) (aj [c26, c28, -c20 < c5, c5 < c20, c18 = false] (fork (bif false then true else (↑l : Int) != c5) c4 c3))) := ag
theorem VW {e:Int} {m:Nat} {c:Nat->Rat}:xq T mS .ret ⟨aE [10,11,2] [.ptr 1 0 3 0 [],.int .i64 e,.own 0 3 0 m],[(0,lJ m c),(1,⟨false,true,3,1,fun j=>if(j==0)=true then bt (agg (kids (.rat 0 1)))else .rat 0 1⟩)],2⟩=
  some (aj [(0:Nat)<1] (leaf ret ([agg [AV.bool false,mag 0,mag 0],int i64 e],some (au.mk true true 3 m fun i=>rat (c i) 4096)))):=ag
theorem Uk {n p m i r:Nat} {k a c x:Nat->Rat} {s:Nat->Nat}:aI T ug [69] 60 pE (before rV [1,1,0]) ⟨aE pE (uD n k p m a i r),ou p m c x s,3⟩=
  let c3:Int:=(↑p:Int);let c2:AV:=ak 3 p fun i=>rat (a i) 4096;let c1:List AV×aF:=([ptr 1 0 3 0 [],int i64 0,own 0 3 0 m,c2,ak 3 n fun i=>rat (k i) 4096,int i64 c3,int i64 (↑i:Int),own 2 3 0 (p+1),c2,int i64 c3,int i64 (↑r:Int)],[(2,au.mk true true 3 (p+1) fun i=>rat (x i) (s i)),(0,au.mk true true 3 m fun i=>rat (c i) 4096),((1:Nat),aQ fun x=>rat 0 1)]);some (fork (decide ((↑r:Int)<c3)) (leaf normal c1) (leaf (exit 1) c1)):=ag
theorem adP {n p m i r:Nat} {k a c x:Nat->Rat} {s:Nat->Nat}:aI T ug [] 60 zM (before Av [1,1]) ⟨aE pE (uD n k p m a i r),ou p m c x s,3⟩=
  let c4:AV:=rat 0 1;let c3:Int:=(↑r:Int);let c2:AV:=int i64 (↑p:Int);let c1:AV:=ak 3 p fun i=>rat (a i) 4096;some (aj [(0:Int)<=c3/\c3.toNat<p,(0:Nat)<1] (leaf normal ([ptr 1 0 3 0 [],int i64 0,own 0 3 0 m,c1,ak 3 n fun i=>rat (k i) 4096,c2,int i64 (↑i:Int),own 2 3 0 (p+1),c1,c2,int i64 c3,int i64 c3,ptr 12291 0 3 0 [],c2],[((12291:Nat),aQ fun j=>if(j==0)=true then bt (rat (a c3.toNat) sK)else c4),(2,au.mk true true 3 (p+1) fun i=>rat (x i) (s i)),(0,au.mk true true 3 m fun i=>rat (c i) 4096),((1:Nat),aQ fun x=>c4)]))):=ag
theorem aeu {n p m i r j:Nat} {k a c x:Nat->Rat} {s:Nat->Nat} {t:Rat}:aI T ug [76] 60 zM [part Av [1,1,0,0]] ⟨aE zM (Kk n k p m a i r j),(3,tP t sK)::ou p m c x s,4⟩=
  let c27:Int:=(↑r:Int);let c23:Int:=(↑i:Int);let c21:AV:=own 0 3 0 m;let c19:Prop:=0<1;let c17:AV:=ptr 3 0 3 0 [];let c16:AV:=ptr 1 0 3 0 [];let c15:AV:=ak 3 n fun i=>rat (k i) 4096;let c13:Int:=(↑p:Int);let c12:Int:=(↑j:Int);let c11:Nat×au:=((3:Nat),aQ fun x=>rat t 4096);let c10:Nat:=2^42;let c8:Nat:=p+1;let c7:AV:=ak 3 p fun i=>rat (a i) 4096;let c6:List (Nat×au):=[(0,au.mk true true 3 m fun i=>rat (c i) 4096),((1:Nat),aQ fun x=>rat 0 1)];let c3:Int:=(2:Int)^63;let c26:AV:=int i64 c13;let c24:Prop:=(0:Int)<=c12/\c12.toNat<c8;let c20:AV:=own 2 3 0 c8;let c14:AV:=int i64 c27;let c4:Nat:=c12.toNat+0;let c2:Int:=c23-c13+c12;let c1:Int:=c12-(1:Int);let c25:Prop:=(0:Int)<=c1/\c1.toNat<c8;let c22:Prop:=-c3<=c1/\c1<c3;let c9:Int:=c2+c13-c27;let c5:Nat:=c1.toNat+0;let c18:Nat:=s c4+s c5+1;some (fork (decide (c12>c27)) (aj [-c3<=c23-c13/\c23-c13<c3,-c3<=c2/\c2<c3] (aj [(0:Int)<=c2/\c2.toNat<n,-c3<=c2+c13/\c2+c13<c3,-c3<=c9/\c9<c3,(0:Int)<=c9/\c9.toNat<n,c19,sK<=sK,sK<=sK,sK<=sK,c19] (aj [c22,c25,c5<c8,c19,c24,c4<c8,c22,c25,c5<c8,s c4<c10,s c5<c10,sF<c10,c18<c10,s c5<c10,sF+c18<c10,c24,c4<c8] (aj [c22] (leaf normal ([c16,int i64 0,c21,c7,c15,c26,int i64 c23,c20,c7,c26,c14,c14,c17,int i64 c1],c11::(2,au.mk true true 3 c8 fun j=>rat (bif j==c4 then x c5+fr (k c2.toNat) (k c9.toNat) t*(x c4-x c5)else x j) (bif j==c4 then s c5+(sF+c18)+1 else s j))::c6)))))) (leaf (exit 3) ([c16,int i64 0,c21,c7,c15,c26,int i64 c23,c20,c7,c26,c14,c14,c17,int i64 c12],c11::(2,au.mk true true 3 c8 fun i=>rat (x i) (s i))::c6))):=ag
theorem YZ {n p m i r j:Nat} {k a c x:Nat->Rat} {s:Nat->Nat} {t:Rat}:aI T ug [] 60 pE [part rV [1,1,1]] ⟨aE zM (Kk n k p m a i r j),(3,tP t sK)::ou p m c x s,4⟩=
  let c2:Int:=(↑r:Int)+(1:Int);let c1:AV:=ak 3 p fun i=>rat (a i) 4096;some (aj [-(2:Int)^63<=c2/\c2<(2:Int)^63] (leaf normal ([ptr 1 0 3 0 [],int i64 0,own 0 3 0 m,c1,ak 3 n fun i=>rat (k i) 4096,int i64 (↑p:Int),int i64 (↑i:Int),own 2 3 0 (p+1),c1,int i64 (↑p:Int),int i64 c2],[(2,au.mk true true 3 (p+1) fun i=>rat (x i) (s i)),(0,au.mk true true 3 m fun i=>rat (c i) 4096),((1:Nat),aQ fun x=>rat 0 1)]))):=ag
theorem Wf {n p m i r:Nat} {k a c x:Nat->Rat} {s:Nat->Nat}:G9 T ug [] 60 mS [part C3 [1,1,1,1,1]] ⟨aE pE (uD n k p m a i r),ou p m c x s,3⟩=
  let c1:Nat:=(↑p:Int).toNat+0;some (aj [(0:Int)<=(↑p:Int)/\(↑p:Int).toNat<p+1,c1<p+1,s c1<2^42,(1:Nat)<2^42,(0:Nat)<1] (aj [(0:Nat)<1] (leaf ret ([rat (x c1+0) (s c1+1+1),int i64 0],some (au.mk true true 3 m fun i=>rat (c i) 4096))))):=ag
theorem abR {n p m l:Nat} {k c a:Nat->Rat} {i:Int} (hp1:1<=p) (hp6:p<=6) (hn:n<2^40) (hm2:m<2^40) (hi:-2^40<i) (hi2:i<2^40) (cx:Ctx) (hk:Kept [0] cx):
  ay P cx mS.ntmps (az mS) ⟨aP 0 [ls k n,.int .i64 p,.own 0 3 0 m,.int .i64 i,ls a l],[(0,lJ m c)],1⟩ (ep cx (xS T mS [.rat (lN n k p m c i l a) sB,.int .i64 (gZ n k p m l i)] (lJ m c))):=by
 obtain⟨b,hb⟩:∃b,b=i.toNat-p:=⟨_,rfl⟩
 obtain⟨x,hx⟩:∃x:Nat->Nat->Rat,x=fun r=>bR k b p a (fun j=>c (b+j)) r:=⟨_,rfl⟩
 have hx0:x 0=fun j=>c (b+j):=by rw[hx];rfl
 have hxS:∀r,x (r+1)=gD k b p r (a r) (x r):=fun r=>by rw[hx];rfl
 have hSF:=Fs
 have hSK:sK=4096:=rfl
 have hSV:sV=268435456:=rfl
 have hrow:∀(l:Nat) (a:Nat->Rat) (w:Bool) (ρ:Nat->Option Nat),cU ρ ⟨true,w,3,l,fun i=>.rat (a i) sK⟩ ⟨true,w,3,l,fun i=>.rat (a i) sK⟩:=fun l a w ρ=>jE rfl fun _ _=>aL rfl
 refine ay.yS hT xX hm [1,1,1,1,0,1] (i:=1) (y:=rV) (z:=part C3 [1,1,1,1,1]) ag ag ag Om.dst hk (f1:=[18,25,36,42,32]) 60 pE 3 (fun r:Nat=>uD n k p m a i.toNat r) (fun r=>ou p m c (x r) fun _=>SB r)
  (fun r=>r<=p/\gZ n k p m l i=0) (fun r=>r=p/\gZ n k p m l i=0) (fun r=>p-r) (Fw T mS [10,11,2] [.rat (lN n k p m c i l a) sB,.int .i64 (gZ n k p m l i)] (lJ m c)) ⟨_,aeD,?_⟩ (fun r ⟨hr,he⟩=>?_) (fun r ⟨hr,he⟩=>?_) (fun v s' hv hs'=>hv.fin (L1:=[4,0,1,3,12,66,67,68]) hk hs')
 ·simp only[ah.all,aA,xQ,bne_iff_ne,ne_eq,bne_eq_false_iff_eq,aZ,cond_false,bh,bz,vZ]
  have ret:∀{e:Int} {us:List AV},gZ n k p m l i=e->e≠0->bA us=[]->Fw T mS [10,11,2] [.rat (lN n k p m c i l a) sB,.int .i64 (gZ n k p m l i)] (lJ m c) ([ptr 1 0 3 0 [],int i64 e,own 0 3 0 m]++us,[((0:Nat),lJ m c),((1:Nat),aQ fun j=>if(j==0)=true then bt (agg (kids (.rat 0 1)))else .rat 0 1)]):=fun {e us} h1 h2 h3=>
   ⟨[_,_,_],us,2,_,rfl,rfl,h3,VW,rfl,⟨⟨aa,fun i _=>rfl⟩,⟨aa,fun i _=>uV rfl rfl⟩,trivial⟩,aa,Nat.zero_lt_one,rfl,rfl,U1 h1 h2,⟨_,rfl,hrow _ _ _⟩⟩
  (repeat' with_reducible first|refine And.intro ?_ ?_|intro _)
  all_goals first|omega|exact cz aY|exact absurd ‹true=false› (by decide)|assumption|skip
  all_goals first|exact ret (N5 (.inl ‹_›)) (by decide) rfl|exact ret (N5 (.inr aa)) (by decide) rfl|skip
  all_goals first|exact ret (Ke aa aa (.inl aa)) (by decide) rfl|exact ret (Ke aa aa (.inr (.inl aa))) (by decide) rfl|skip
  all_goals have e1:(i+1).toNat=i.toNat+1:=aa
  ·exact ret (Ke aa aa (.inr (.inr (by rw[<-e1];assumption)))) (by decide) rfl
  ·rename_i h1
   rw[e1]at h1
   have hlp:l=p:=aa
   subst hlp
   refine⟨0,⟨aa,wW aa rfl (by rintro(h|h|h)<;>first|omega|exact h1 h)⟩,[(0,0),(1,1),(2,163841)],rfl,?_,rfl,bZ rfl rfl aa (fun j hj=>?_) (aM (bZ rfl rfl rfl (fun j hj=>cQ rfl rfl) trivial))⟩
   ·rw[show((l:Int)+1).toNat=l+1 by omega]
    show _=[_,_,_,_,_,_,AV.int i64 ((i.toNat:Nat):Int),_,_,_,_]
    rw[show((i.toNat:Nat):Int)=i by omega]
    rfl
   ·rw[if_pos aa,hx0,show(i-(l:Int)).toNat=b by omega,Nat.sub_zero,Nat.zero_add,Nat.add_comm j b]
    exact .inr ⟨rfl,bX rfl (show sK<=SB 0 by decide)⟩
 ·have hin:(m:Int)=(n:Int)-p-1/\p<=i.toNat/\i.toNat<m/\i.toNat=b+p/\l=p:=by
   unfold gZ at he
   split at he
   ·omega
   ·split at he
    ·omega
    ·omega
  obtain⟨i1,i2,i3,i4,i5⟩:=hin
  subst i5
  have hr4:∀{s:Nat->Nat} {y:Nat->Rat},jY 3 [(0,0),(1,1),(2,2)] [(2,au.mk true true 3 (l+1) fun i=>rat (y i) (s i)),((0:Nat),lJ m c),((1:Nat),aQ fun x=>rat 0 1)] (ou l m c y s):=bZ rfl rfl rfl (fun j hj=>cQ rfl rfl) (aM (bZ rfl rfl rfl (fun j hj=>cQ rfl rfl) trivial))
  refine ay.rL hT xX hm (y:=rV) (x1:=Av) (zb:=part rV [1,1,1]) [1,1,0] (j:=2) ag ag ag ag hk (f1:=[69]) 60 pE 3 (fun _:Unit=>uD n k l m a i.toNat r) (fun _=>ou l m c (x r) fun _=>SB r) (fun _=>r<l) ⟨_,Uk,?_⟩ (fun _ hr'=>?_)
  ·simp only[ah.all,aA,bh,bz]
   have re:∀{s:Nat->Nat} {y:Nat->Rat},ej [0] ([ptr 1 0 3 0 [],int i64 0,own 0 3 0 m,ls a l,ak 3 n fun i=>rat (k i) sK,int i64 l,int i64 (i.toNat:Nat),own 2 3 0 (l+1),ls a l,int i64 l,int i64 (r:Nat)],[(2,au.mk true true 3 (l+1) fun i=>rat (y i) (s i)),((0:Nat),lJ m c),((1:Nat),aQ fun x=>rat 0 1)]) (uD n k l m a i.toNat r) (ou l m c y s) 3:=
    ⟨[(0,0),(1,1),(2,2)],rfl,rfl,rfl,hr4⟩
   exact⟨fun h1=>⟨(),aa,re⟩,fun h1 s' hs'=>⟨rfl,r,⟨aa,he⟩,re.le hs' hk⟩⟩
  have h1:=v7 (d:=r)
  have h2:=Ay (d:=r) aa
  have h3:=Eb (d:=r)
  refine ay.x8 hT xX hm (x:=Av) [1,1] (i:=3) (y:=part Av [1,1,0,0]) ag ag ag hk (f1:=[]) (f2:=[76]) 60 zM 4 (fun j:Nat=>Kk n k l m a i.toNat r j) (fun j=>(3,tP (a r) sK)::ou l m c (nv k b l r (a r) (x r) j) (nJ r j)) (fun j=>r<=j/\j<=l) (fun j=>j=r) (fun j=>j) (fun _=>False) ⟨_,adP,?_⟩ (fun j hj=>⟨_,aeu,?_⟩) (fun j s' hj hle=>?_) (fun _ _ h=>h.elim)
  ·simp only[ah.all,aA,aZ]
   refine⟨⟨aa,aa⟩,l,aa,[(0,0),(1,1),(2,2),(3,12291)],rfl,rfl,rfl,aM (bZ rfl rfl rfl (fun j hj=>cQ rfl ?_) (aM (bZ rfl rfl rfl (fun j hj=>cQ rfl rfl) trivial)))⟩
   unfold nv nJ
   rw[if_pos aa,if_pos aa]
  ·obtain⟨hj1,hj2⟩:=hj
   have e1:((i.toNat:Nat):Int)-(l:Int)+(j:Int)=((b+j:Nat):Int):=aa
   have e2:((b+j:Nat):Int)+(l:Int)-(r:Int)=((b+j+(l-r):Nat):Int):=aa
   have u1:∀{j':Nat},j'<=j->nJ r j j'=SB r:=fun h=>by unfold nJ;rw[if_pos h]
   simp only[ah.all,aA,bh,bz,e1,e2,aZ,Nat.add_zero]
   refine⟨fun h4=>?_,fun h4=>⟨rfl,j,aa,[(0,0),(1,1),(2,2),(3,3)],rfl,rfl,rfl,aM (bZ rfl rfl rfl (fun j hj=>cQ rfl rfl) (aM (bZ rfl rfl rfl (fun j hj=>cQ rfl rfl) trivial)))⟩⟩
   have e3:((j:Int)-1).toNat=j-1:=aa
   have u2:=u1 (j':=j) aY
   have u3:=u1 (j':=j-1) aa
   simp only[e3,u2,u3]
   (repeat' with_reducible refine And.intro ?_ ?_)
   all_goals first|omega|skip
   exact⟨j-1,aa,by dsimp only;omega,[(0,0),(1,1),(2,2),(3,3)],rfl,by rw[show(j:Int)-1=((j-1:Nat):Int) by omega];rfl,rfl,aM (bZ rfl rfl rfl (fun q hq=>ah1 aa aa) (aM (bZ rfl rfl rfl (fun j hj=>cQ rfl rfl) trivial)))⟩
  ·subst hj
   show ay P cx mS.ntmps (part rV [1,1,1]) s' _
   refine ay.kO hle (ay.bB hT xX hm 60 pE YZ ag ?_)
   simp only[ah.all,aA]
   refine⟨aa,fun s' hs'=>⟨j+1,⟨aa,he⟩,by dsimp only;omega,ej.le ⟨[(0,0),(1,1),(2,2)],rfl,rfl,rfl,bZ rfl rfl rfl (fun q hq=>?_) (aM (bZ rfl rfl rfl (fun j hj=>cQ rfl rfl) trivial))⟩ hs' hk⟩⟩
   refine .inr ⟨rfl,bX (by rw[akY,hxS]) ?_⟩
   show nJ j j q<=SB (j+1)
   unfold nJ
   split<;>omega
 ·have hlp:l=p:=by
   unfold gZ at he
   split at he
   ·omega
   ·omega
  subst hlp
  subst hr
  refine ay.m8 ((aG.UG hT xX hm 60 Wf ag ?_).mono fun _ _ h=>.inl h)
  have h2:=Ay (d:=r) hp6
  simp only[ah.all,aA,aZ,Nat.add_zero]
  refine⟨⟨aa,aa,aa,aa,aa⟩,aa,rfl,rfl,⟨bX ?_ (by show SB r+1+1<=536870912;omega),bN he.symm,trivial⟩,⟨_,rfl,hrow _ _ _⟩⟩
  unfold lN
  rw[if_pos he,<-hb,hx,Rat.add_zero]
def pF (f:Nat->AV) (n s:Nat):Prop:=∀i,i<n->keys (f i)=[]/\bF (f i) (.rat (aV (f i)) s)
theorem QE {k:Nat->Rat} {n s s':Nat} (h:s<=s'):pF (fun i=>.rat (k i) s) n s':=fun _ _=>⟨rfl,gj h⟩
theorem pF.obj {f:Nat->AV} {n s:Nat} {w:Bool} (h:pF f n s) {m:Nat} (hm:n=m) (ρ:Nat->Option Nat):cU ρ ⟨true,w,3,n,f⟩ ⟨true,w,3,m,fun i=>.rat (aV (f i)) s⟩:=⟨rfl,rfl,rfl,hm.symm,fun i hi=>nk (h i hi).1 (h i hi).2⟩
def JY:Spec:=fun _ args pre=>match args,pre with
 |[.ak 3 n kf,.int .i64 p,.own b 3 0 m,.int .i64 i,.ak 3 l af],[(b',⟨true,true,3,mb,fb⟩)]=>match b'==b with
  |true=>some ⟨R7 n (fun i=>aV (kf i)) p.toNat m (fun i=>aV (fb i)) i l (fun i=>aV (af i)),[(b,lJ m fun i=>aV (fb i))],
   [mb=m,bT kf n sK,bT af l sK,pF fb m sK,1<=p,p<=6,n<2^40,m<2^40,-2^40<i,i<2^40]⟩
  |false=>none
 |_,_=>none
theorem afh:∀K args pre r,JY K args pre=some r->aD P JU K args pre r:=by
 intro K args pre r h
 unfold JY at h
 split at h
 ·rename_i n kf p b m i l af b' mb fb
  split at h
  ·rename_i hc
   have hc:=eq_of_beq hc
   subst hc
   simp only[ax]at h
   subst h
   intro need
   obtain⟨rfl,n1,n2,n3,n4,n5,n6,n7,n8,n9⟩:=need
   refine akp hT Om (args:=[.ak 3 n kf,.int .i64 p,.own b' 3 0 mb,.int .i64 i,.ak 3 l af]) (us:=[.rat (lN n (fun i=>aV (kf i)) p.toNat mb (fun i=>aV (fb i)) i l (fun i=>aV (af i))) sB,.int .i64 (gZ n (fun i=>aV (kf i)) p.toNat mb l i)]) (args0:=[ls (fun i=>aV (kf i)) n,.int .i64 p,.own 0 3 0 mb,.int .i64 i,ls (fun i=>aV (af i)) l]) aW
    ⟨⟨rfl,nk rfl (IP n1)⟩,⟨rfl,aL rfl⟩,⟨rfl,cT rfl rfl rfl⟩,⟨rfl,aL rfl⟩,⟨rfl,nk rfl (IP n2)⟩,trivial⟩ (fun _ ρ=>n3.obj rfl ρ) (fun _ c hk=>?_) K ⟨rfl,n1,n2,n3,n4,n5,n6,n7,n8,n9⟩
   have:=abR (n:=n) (p:=p.toNat) (m:=mb) (l:=l) (k:=fun i=>aV (kf i)) (c:=fun i=>aV (fb i)) (a:=fun i=>aV (af i)) (i:=i) aa aa n6 n7 n8 n9 c hk
   rw[Int.toNat_of_nonneg aa]at this
   exact this
  ·simp at h
 ·simp at h
theorem aiS:aR P Ad BT (az BT):=aS Proofs.Tryz.func189 ag ag ag
theorem St:aR P zU qp (az qp):=aS Proofs.Tryz.func190 ag ag ag
def pM (k:Nat->Rat) (n:Nat):Nat->Nat->Nat
 |0,i=>i
 |f+1,i=>if i+1<n/\k (i+1)<=k i then pM k n f (i+1)else i
def er (k:Nat->Rat) (n i:Nat):Nat:=pM k n (n-i) i
abbrev Ah:List Nat:=[0,1,4]
abbrev Ii (n i:Nat) (k:Nat->Rat):List AV:=[ls k n,.int .i64 i,.int .i64 0]
abbrev zm:Code:=az BT
def bW (h:Pl):Nat->Rat
 |0=>h.n.x
 |1=>h.n.y
 |2=>h.n.z
 |_=>h.d
def pQ (g:Nat->Rat):Nat->Pl
 |0=>⟨⟨0,0,0⟩,0⟩
 |1=>⟨⟨g 0,0,0⟩,0⟩
 |2=>⟨⟨g 0,g 1,0⟩,0⟩
 |3=>⟨⟨g 0,g 1,g 2⟩,0⟩
 |_=>⟨⟨g 0,g 1,g 2⟩,g 3⟩
def ga (c:Cu) (i:Int) (l:Nat) (g:Nat->Rat) (a:Nat):Rat:=lN c.n c.k c.p.toNat c.m (fun j=>bW (c.f j) a) i l g
def nB (c:Cu) (i:Int) (l:Nat) (g:Nat->Rat):Pl:=⟨⟨ga c i l g 0,ga c i l g 1,ga c i l g 2⟩,ga c i l g 3⟩
def oP (c:Cu) (a:Nat) (x:Nat->Rat) (j q:Nat):Rat:=if q<j\/c.m<=q then bW (c.f q) a else x q
theorem aey {c:Cu} {a:Nat} {x:Nat->Rat}:oP c a x c.m=fun q=>bW (c.f q) a:=by
 funext q;unfold oP;rw[if_pos aa]
def qD:aX:=nG::(JU,JY)::fQ
abbrev jl:List Nat:=[1,2,3,6,7,8,16]
abbrev lX (c:Cu) (i:Int) (l:Nat) (g:Nat->Rat) (a:Nat):List AV:=[.int .i64 i,ls g l,.ptr 0 0 3 0 [],.ptr 1 0 12 0 [],.ptr 2 0 12 0 [],.own 3 3 0 c.m,.int .i64 a]
abbrev yz:List Nat:=[1,2,3,6,7,8,16,9,20,21,22]
abbrev BI (c:Cu) (i:Int) (l:Nat) (g:Nat->Rat) (a j:Nat):List AV:=[.int .i64 i,ls g l,.ptr 0 0 3 0 [],.ptr 1 0 12 0 [],.ptr 2 0 12 0 [],.own 3 3 0 c.m,.int .i64 a,.int .i64 a,ri c.f c.m sK,.int .i64 c.m,.int .i64 j]
abbrev jA (c:Cu) (x:Nat->Rat) (h:Pl):aF:=[(3,lJ c.m x),(2,jN h sB),(1,jN ⟨⟨0,0,0⟩,0⟩ 1),(0,qA c sK)]
abbrev E0:Code:=az qp
abbrev pL:Code:=part E0 [1,1,1,0,1,0,0]
abbrev oT:Code:=part pL [1,1,0,0]
theorem akc {n i:Nat} {k:Nat->Rat}:aI T (nG::fQ) [] 60 Ah (before zm [1,0]) ⟨aP 0 [ls k n,.int .i64 i],[],0⟩=
  some (leaf normal ([ak 3 n fun i=>rat (k i) 4096,int i64 (↑i:Int),int i64 0],[])):=ag
theorem ams {n i:Nat} {k:Nat->Rat}:aI T (nG::fQ) [10,22] 60 Ah [part zm [1,0,0,0]] ⟨aE Ah (Ii n i k),[],0⟩=
  let c9:Prop:=sK<2^42;let c8:Int:=(↑i:Int);let c3:AV:=ak 3 n fun i=>rat (k i) 4096;let c4:ah (List AV×aF):=leaf (exit 0) ([c3,int i64 c8,int i64 0],[]);let c1:Int:=c8+(1:Int);let c7:Int:=e9 (k c8.toNat) (k c1.toNat);let c6:Bool:=decide (c1<(↑n:Int));let c2:Prop:=-(2:Int)^63<=c1/\c1<(2:Int)^63;let c5:ah (List AV×aF):=aj [c2] (leaf normal ([c3,int i64 c1,int i64 0],[]));some (fork c6 (aj [c2,c6=true,(0:Int)<=c8/\c8.toNat<n,c2,(0:Int)<=c1/\c1.toNat<n,c9,c9] (fork (bif true then decide (c7>=(0:Int))else false) c5 c4)) (aj [c2,c6=false] (fork false c5 c4))):=ag
theorem afd {n i:Nat} {k:Nat->Rat}:cJ T (nG::fQ) [] 60 BT [part zm [1,1]] ⟨aE Ah (Ii n i k),[],0⟩=
  some (leaf ret [int i64 (↑i:Int)]):=ag
theorem aao {c:Cu} {i:Int} {l:Nat} {g:Nat->Rat}:aI T qD [] 60 jl (before E0 [1,1,1,0,1]) ⟨aP 0 [dI c sK sK,.int .i64 i,ls g l],[],0⟩=
  let c4:Nat:=(bt (dI c sK sK)).size;let c3:Int:=(↑c.m:Int);let c1:AV:=rat 0 1;let c2:au:=au.mk false true 12 1 fun x=>agg [c1,c1,c1,c1];some (aj [(0:Nat)<1,(0:Int)<=c3/\c3<=c3/\c3<=(2:Int)^47/\c3*(↑(56:Nat):Int)<=(2:Int)^47] (leaf normal ([int i64 i,ak 3 l fun i=>rat (g i) 4096,ptr 0 0 c4 0 [],ptr 4096 0 12 0 [],ptr 8192 0 12 0 [],own 24576 3 0 c3.toNat,int i64 0],[(24576,au.mk true true 3 c3.toNat fun x=>c1),((8192:Nat),c2),((4096:Nat),c2),(0,au.mk false true c4 1 fun x=>agg [int i64 c.p,ak 3 c.n fun i=>rat (c.k i) 4096,ak 12 c.m fun i=>agg [rat (c.f i).n.x 4096,rat (c.f i).n.y 4096,rat (c.f i).n.z 4096,rat (c.f i).d 4096]])]))):=ag
theorem Us {c:Cu} {i:Int} {l a:Nat} {g x:Nat->Rat} {h:Pl}:aI T qD [17] 60 jl (before pL [1,1,0]) ⟨aE jl (lX c i l g a),jA c x h,4⟩=
  let c2:AV:=rat 0 1;let c1:List AV×aF:=([int i64 i,ak 3 l fun i=>rat (g i) 4096,ptr 0 0 3 0 [],ptr 1 0 12 0 [],ptr 2 0 12 0 [],own 3 3 0 c.m,int i64 (↑a:Int)],[(3,au.mk true true 3 c.m fun i=>rat (x i) 4096),(2,au.mk false true 12 1 fun x=>agg [rat h.n.x 536870912,rat h.n.y 536870912,rat h.n.z 536870912,rat h.d 536870912]),(1,au.mk false true 12 1 fun x=>agg [c2,c2,c2,c2]),((0:Nat),aQ fun x=>agg [int i64 c.p,ak 3 c.n fun i=>rat (c.k i) 4096,ak 12 c.m fun i=>agg [rat (c.f i).n.x 4096,rat (c.f i).n.y 4096,rat (c.f i).n.z 4096,rat (c.f i).d 4096]])]);some (fork (decide ((↑a:Int)<(4:Int))) (leaf normal c1) (leaf (exit 0) c1)):=ag
theorem aaY {c:Cu} {i:Int} {l a:Nat} {g x:Nat->Rat} {h:Pl}:aI T qD [] 60 yz (before oT [1,0,1]) ⟨aE jl (lX c i l g a),jA c x h,4⟩=
  let c2:AV:=rat 0 1;let c1:AV:=ak 12 c.m fun i=>agg [rat (c.f i).n.x 4096,rat (c.f i).n.y 4096,rat (c.f i).n.z 4096,rat (c.f i).d 4096];some (aj [(0:Nat)<1] (leaf normal ([int i64 i,ak 3 l fun i=>rat (g i) 4096,ptr 0 0 3 0 [],ptr 1 0 12 0 [],ptr 2 0 12 0 [],own 3 3 0 c.m,int i64 (↑a:Int),int i64 (↑a:Int),c1,int i64 (↑c.m:Int),int i64 0],[(3,au.mk true true 3 c.m fun i=>rat (x i) 4096),(2,au.mk false true 12 1 fun x=>agg [rat h.n.x 536870912,rat h.n.y 536870912,rat h.n.z 536870912,rat h.d 536870912]),(1,au.mk false true 12 1 fun x=>agg [c2,c2,c2,c2]),((0:Nat),aQ fun x=>agg [int i64 c.p,ak 3 c.n fun i=>rat (c.k i) 4096,c1])]))):=ag
theorem alI {c:Cu} {i:Int} {l a:Nat} {g x:Nat->Rat} {h:Pl}:aI T qD [] 60 jl [part pL [1,1,1]] ⟨aE jl (lX c i l g a),jA c x h,4⟩=
  let c2:Int:=(↑a:Int)+(1:Int);let c1:AV:=rat 0 1;some (aj [-(2:Int)^63<=c2/\c2<(2:Int)^63] (leaf normal ([int i64 i,ak 3 l fun i=>rat (g i) 4096,ptr 0 0 3 0 [],ptr 1 0 12 0 [],ptr 2 0 12 0 [],own 3 3 0 c.m,int i64 c2],[(3,au.mk true true 3 c.m fun i=>rat (x i) 4096),(2,au.mk false true 12 1 fun x=>agg [rat h.n.x 536870912,rat h.n.y 536870912,rat h.n.z 536870912,rat h.d 536870912]),(1,au.mk false true 12 1 fun x=>agg [c1,c1,c1,c1]),((0:Nat),aQ fun x=>agg [int i64 c.p,ak 3 c.n fun i=>rat (c.k i) 4096,ak 12 c.m fun i=>agg [rat (c.f i).n.x 4096,rat (c.f i).n.y 4096,rat (c.f i).n.z 4096,rat (c.f i).d 4096]])]))):=ag
theorem adT {c:Cu} {i:Int} {l a:Nat} {g x:Nat->Rat} {h:Pl}:cJ T qD [] 60 qp [part E0 [1,1,1,1]] ⟨aE jl (lX c i l g a),jA c x h,4⟩=
  let c1:Prop:=0<1;some (aj [c1,c1] (aj [c1] (leaf ret [agg [rat h.n.x 536870912,rat h.n.y 536870912,rat h.n.z 536870912,rat h.d 536870912]]))):=ag
theorem TO {k:Nat->Rat} {n i:Nat} (h:i+1<n) (h2:k (i+1)<=k i):er k n i=er k n (i+1):=by
 unfold er;rw[show n-i=(n-(i+1))+1 by omega,pM,if_pos ⟨h,h2⟩]
theorem JA {k:Nat->Rat} {n i:Nat} (h:¬(i+1<n/\k (i+1)<=k i)):er k n i=i:=by
 unfold er
 cases n-i with
 |zero=>rfl
 |succ f=>rw[pM,if_neg h]
theorem afi {n i:Nat} {k:Nat->Rat} (hi:i<=n) (hn:n<2^40) (K:Nat):aD P Ad K [ls k n,.int .i64 i] [] (aK (.int .i64 (er k n i)) []):=by
 refine gV (r:=aK (.int .i64 (er k n i)) []) hT (dg gm) hm aiS rfl aW rfl [1,0] (i:=0) (y:=part zm [1,0,0,0]) (z:=part zm [1,1]) ag ag ag (f1:=[]) (f2:=[10,22]) (f3:=[]) 60 Ah 0
  (fun j:Nat=>Ii n j k) (fun _=>[]) (fun j=>j<=n/\er k n j=er k n i) (fun j=>j=er k n i) (fun j=>n-j) (fun _=>⟨⟨_,akc,?_⟩,fun j hj=>⟨_,ams,?_⟩,fun j hj=>⟨_,afd,?_⟩⟩) K []
 ·simp only[ah.all,aA]
  exact⟨i,⟨hi,rfl⟩,[],rfl,rfl,rfl,trivial⟩
 ·have e1:((j:Int)+1).toNat=j+1:=aa
  simp only[ah.all,aA,bh,bz,aZ,cond_true,e1,vZ]
  refine⟨fun h1=>⟨⟨aa,aa,aa,aa,aa,by decide,by decide⟩,fun h2=>⟨aa,j+1,⟨aa,(TO aa h2).symm.trans hj.2⟩,by dsimp only;omega,[],rfl,rfl,rfl,trivial⟩,fun h2=>⟨rfl,j,?_,[],rfl,rfl,rfl,trivial⟩⟩,fun h1=>⟨⟨aa,aa⟩,fun h=>absurd h (by decide),fun _=>⟨rfl,j,?_,[],rfl,rfl,rfl,trivial⟩⟩⟩
  ·exact(JA fun h=>h2 h.2).symm.trans hj.2
  ·exact(JA fun h=>aa).symm.trans hj.2
 ·subst hj
  simp only[ah.all,aA]
  exact .refl _
def GF:Spec:=cI (kC (kL sK) (kC kI kN)) (fun a=>.int .i64 (er a.1.2 a.1.1 a.2.1.toNat)) fun a=>[0<=a.2.1,a.2.1<=a.1.1,a.1.1<2^40]
theorem M0:∀K args pre r,GF K args pre=some r->aD P Ad K args pre r:=cL fun⟨⟨n,k⟩,i,_⟩ K hn=>by
 obtain⟨h1,h2,h3⟩:=hn
 have:=afi (n:=n) (i:=i.toNat) (k:=k) (by dsimp only at*;omega) h3 K
 rw[Int.toNat_of_nonneg h1]at this
 exact this
theorem uN:bq P qD:=dg (aH afh gm)
def yZ (c:Cu):Nat->Nat->Rat
 |0=>fun _=>0
 |a+1=>fun q=>bW (c.f q) a
theorem aeG {rl:List (Nat×Nat)} {c:Cu} {a:Nat} {x:Nat->Rat} {q:Nat} (hq:q<c.m):gn rl (.rat (x q) sK) (.rat (oP c a x 0 q) sK):=cQ rfl (by unfold oP;rw[if_neg aa])
theorem aea {rl:List (Nat×Nat)} {c:Cu} {a j:Nat} {x:Nat->Rat} {q:Nat} {v:Rat} (hq:q<c.m) (hv:v=bW (c.f j) a):gn rl (.rat (bif q==j then v else oP c a x j q) (bif q==j then sK else sK)) (.rat (oP c a x (j+1) q) sK):=by
 refine cQ rfl ?_
 rw[Bool.cond_self]
 congr 1
 by_cases h:q=j
 ·subst h
  rw[beq_self_eq_true,cond_true,hv];unfold oP;rw[if_pos aa]
 ·rw[beq_eq_false_iff_ne.2 h,cond_false];unfold oP
  by_cases h2:q<j
  ·rw[if_pos (.inl h2),if_pos (.inl aa)]
  ·rw[if_neg aa,if_neg aa]
theorem abG {x:Nat->Rat} {m:Nat}:pF (fun i=>.rat (x i) sK) m sK:=QE aY
theorem four {a:Nat} (ha:a<4):a=0\/a=1\/a=2\/a=3:=aa
theorem ahz {c:Cu} {i:Int} {l a j:Nat} {g x:Nat->Rat} {h:Pl} (ha:a<4):aI T qD [23] 60 yz [part oT [1,0,1,0,0]] ⟨aE yz (BI c i l g a j),jA c x h,4⟩=
  some (fork (decide ((j:Int)<c.m)) (aj [(0:Int)<=j/\(j:Int).toNat<c.m,0<1] (aj [(0:Int)<=a/\(a:Int)<(4:Nat),0<1,(0:Int)<=j/\(j:Int).toNat<c.m,(j:Int).toNat+0<c.m] (aj [-(2:Int)^63<=(j:Int)+1/\(j:Int)+1<(2:Int)^63]
   (leaf normal ([.int .i64 i,ls g l,.ptr 0 0 3 0 [],.ptr 1 0 12 0 [],.ptr 2 0 12 0 [],.own 3 3 0 c.m,.int .i64 a,.int .i64 a,ri c.f c.m sK,.int .i64 c.m,.int .i64 ((j:Int)+1)],(3,⟨true,true,3,c.m,fun q=>.rat (bif q==(j:Int).toNat+0 then bW (c.f (j:Int).toNat) a else x q) (bif q==(j:Int).toNat+0 then sK else sK)⟩)::[(2,jN h sB),(1,jN ⟨⟨0,0,0⟩,0⟩ 1),(0,qA c sK)]))))) (leaf (exit 2) (BI c i l g a j,jA c x h))):=by
 rcases four ha with rfl|rfl|rfl|rfl<;>kernel_rfl
theorem akb {c:Cu} {i:Int} {l a j:Nat} {g x:Nat->Rat} {h:Pl} (ha:a<4):aI T qD [] 60 jl [part oT [1,1]] ⟨aE yz (BI c i l g a j),jA c x h,4⟩=
  some (aj [0<1,0<1,c.m=c.m,bT (fun i=>.rat (c.k i) sK) c.n sK,bT (fun i=>.rat (g i) sK) l sK,pF (fun i=>.rat (x i) sK) c.m sK,(1:Int)<=c.p,c.p<=(6:Int),c.n<2^40,c.m<2^40,-(2:Int)^40<i,i<(2:Int)^40,(0:Int)<=a/\(a:Int)<(4:Nat),0<1]
   (leaf normal (lX c i l g a,[(3,lJ c.m x),(2,⟨false,true,12,1,fun j=>if(j==0)=true then .agg ((bG h sB).kids.set a (.rat (lN c.n c.k c.p.toNat c.m x i l g) sB))else bG h sB⟩),(1,jN ⟨⟨0,0,0⟩,0⟩ 1),(0,qA c sK)]))):=by
 rcases four ha with rfl|rfl|rfl|rfl<;>kernel_rfl
theorem Wh {rl:List (Nat×Nat)} {G:Nat->Rat} {a:Nat} (ha:a<4):gn rl (.agg ((bG (pQ G a) sB).kids.set a (.rat (G a) sB))) (bG (pQ G (a+1)) sB):=by
 rcases four ha with rfl|rfl|rfl|rfl<;>exact cQ rfl rfl
theorem acZ {c:Cu} {i:Int} {l a:Nat} {g x:Nat->Rat} {cx:Ctx} {Q:aq->aJ->Prop} (ha:a<4) (hk:Kept [] cx) (hp1:1<=c.p) (hp6:c.p<=6) (hn:c.n<2^40) (hm2:c.m<2^40) (hi:-2^40<i) (hi2:i<2^40)
  (hQ:∀s',(∃ρ,Le cx ρ s' ⟨aE jl (lX c i l g a),jA c (yZ c (a+1)) (pQ (ga c i l g) (a+1)),4⟩)->ay P cx qp.ntmps (part pL [1,1,1]) s' Q):
  ay P cx qp.ntmps oT ⟨aE jl (lX c i l g a),jA c x (pQ (ga c i l g) a),4⟩ (inBlock 1 (dU (fun s'=>ay P cx qp.ntmps (part pL [1,1,1]) s' Q) Q)):=by
 refine ay.x8 hT uN hm (x:=oT) [1,0,1] (i:=2) (y:=part oT [1,0,1,0,0]) ag ag ag hk (f1:=[]) (f2:=[23]) 60 yz 4 (fun j:Nat=>BI c i l g a j) (fun j=>jA c (oP c a x j) (pQ (ga c i l g) a)) (fun j=>j<=c.m) (fun j=>j=c.m) (fun j=>c.m-j) (fun _=>False) ⟨_,aaY,?_⟩ (fun j hj=>⟨_,ahz ha,?_⟩) (fun j s' hj hle=>?_) (fun _ _ h=>h.elim)
 ·simp only[ah.all,aA]
  exact⟨aa,0,Nat.zero_le _,[(0,0),(1,1),(2,2),(3,3)],rfl,rfl,rfl,bZ rfl rfl rfl (fun q hq=>aeG hq) (aM (aM (aM trivial)))⟩
 ·simp only[ah.all,aA,bh,bz,aZ,Nat.add_zero]
  exact⟨fun h1=>⟨⟨aa,aa⟩,⟨aa,aa,aa,aa⟩,aa,j+1,aa,by dsimp only;omega,[(0,0),(1,1),(2,2),(3,3)],rfl,rfl,rfl,bZ rfl rfl rfl (fun q hq=>aea hq rfl) (aM (aM (aM trivial)))⟩,
   fun h1=>⟨rfl,j,aa,[(0,0),(1,1),(2,2),(3,3)],rfl,rfl,rfl,bZ rfl rfl rfl (fun q hq=>cQ rfl rfl) (aM (aM (aM trivial)))⟩⟩
 ·subst hj
  simp only[aey]at hle
  rw[show behind oT [1,0,1]=[part oT [1,1]]from by kernel_rfl]
  refine aG.weak rfl hle (aG.bB hT uN hm 60 jl (akb ha) ag ?_)
  simp only[ah.all,aA]
  refine⟨⟨aa,aa,trivial,cz aY,cz aY,abG,hp1,hp6,hn,hm2,hi,hi2,aa,aa⟩,fun s'' hs''=>hQ s'' (ej.le ⟨[(0,0),(1,1),(2,2),(3,3)],rfl,rfl,rfl,bZ rfl rfl rfl (fun q hq=>cQ rfl rfl) (cD rfl rfl (Wh ha) (aM (aM trivial)))⟩ hs'' hk)⟩
theorem ah8 {c:Cu} {i:Int} {l:Nat} {g:Nat->Rat} (hp1:1<=c.p) (hp6:c.p<=6) (hn:c.n<2^40) (hm2:c.m<2^40) (hi:-2^40<i) (hi2:i<2^40) (K:Nat):aD P zU K [dI c sK sK,.int .i64 i,ls g l] [] (aK (bG (nB c i l g) sB) []):=by
 refine iP (r:=aK (bG (nB c i l g) sB) []) hT St rfl aW rfl (fun _ cx h00=>?_) K []
 have hk:=qw h00
 refine ay.yS hT uN hm [1,1,1,0,1] (i:=0) (y:=pL) (z:=part E0 [1,1,1,1]) ag ag ag St.dst hk (f1:=[]) 60 jl 4 (fun a:Nat=>lX c i l g a) (fun a=>jA c (yZ c a) (pQ (ga c i l g) a)) (fun a=>a<=4) (fun a=>a=4) (fun a=>4-a) (fun _=>False) ⟨_,aao,?_⟩ (fun a ha=>?_) (fun a ha=>?_) (fun _ _ h=>h.elim)
 ·simp only[ah.all,aA,aZ]
  exact⟨⟨aa,aa⟩,0,aa,[(0,0),(1,4096),(2,8192),(3,24576)],rfl,rfl,rfl,bZ rfl rfl rfl (fun q hq=>.inr ⟨rfl,bX rfl (by decide)⟩) (cD rfl rfl (.inr ⟨rfl,ct (show ff [.rat _ _,.rat _ _,.rat _ _,.rat _ _] [.rat _ _,.rat _ _,.rat _ _,.rat _ _]from⟨bX rfl (by decide),bX rfl (by decide),bX rfl (by decide),bX rfl (by decide),trivial⟩)⟩) (aM (aM trivial)))⟩
 ·have re:∀{x:Nat->Rat} {h:Pl},ej [] (lX c i l g a,jA c x h) (lX c i l g a) (jA c x h) 4:=
   fun {x h}=>⟨[(0,0),(1,1),(2,2),(3,3)],rfl,rfl,rfl,bZ rfl rfl rfl (fun q hq=>cQ rfl rfl) (aM (aM (aM trivial)))⟩
  refine ay.rL hT uN hm (y:=pL) (x1:=oT) (zb:=part pL [1,1,1]) [1,1,0] (j:=1) ag ag ag ag hk (f1:=[17]) 60 jl 4 (fun _:Unit=>lX c i l g a) (fun _=>jA c (yZ c a) (pQ (ga c i l g) a)) (fun _=>a<4) ⟨_,Us,?_⟩ (fun _ ha'=>?_)
  ·simp only[ah.all,aA,bh,bz]
   exact⟨fun h1=>⟨(),aa,re⟩,fun h1 s' hs'=>⟨rfl,a,aa,re.le hs' hk⟩⟩
  have nx:∀s',(∃ρ,Le cx ρ s' ⟨aE jl (lX c i l g a),jA c (yZ c (a+1)) (pQ (ga c i l g) (a+1)),4⟩)->ay P cx qp.ntmps (part pL [1,1,1]) s' (ES cx jl (fun a:Nat=>lX c i l g a) (fun a=>jA c (yZ c a) (pQ (ga c i l g) a)) 4 (fun a=>a<=4) (fun a=>a=4) (fun a=>4-a) 0 (fun s'=>∃v,False/\bw jl s'=some v) a):=fun s' hle=>by
   refine ay.kO hle (ay.bB hT uN hm 60 jl alI ag ?_)
   simp only[ah.all,aA]
   exact⟨aa,fun s'' hs''=>⟨a+1,aa,by dsimp only;omega,ej.le ⟨[(0,0),(1,1),(2,2),(3,3)],rfl,rfl,rfl,bZ rfl rfl rfl (fun q hq=>cQ rfl rfl) (aM (aM (aM trivial)))⟩ hs'' hk⟩⟩
  exact acZ ha' hk hp1 hp6 hn hm2 hi hi2 nx
 ·subst ha
  refine ay.m8 ((aG.fin hT uN hm 60 adT ag ?_).mono fun _ _ h=>.inl h)
  simp only[ah.all,aA]
  exact⟨⟨aa,aa⟩,aa,.refl _⟩
def Gi:Spec:=cI (kC (qd sK sK) (kC kI (kC (kL sK) kN))) (fun a=>bG (nB a.1 a.2.1 a.2.2.1.1 a.2.2.1.2) sB) fun a=>[1<=a.1.p,a.1.p<=6,a.1.n<2^40,a.1.m<2^40,-2^40<a.2.1,a.2.1<2^40]
theorem LZ:∀K args pre r,Gi K args pre=some r->aD P zU K args pre r:=cL fun⟨c,i,⟨l,g⟩,_⟩ K hn=>ah8 hn.1 hn.2.1 hn.2.2.1 hn.2.2.2.1 hn.2.2.2.2.1 hn.2.2.2.2.2 K
theorem abb:aR P E6 nO (az nO):=aS Proofs.Tryz.func75 ag ag ag
theorem ai3:aR P Fb mB (az mB):=aS Proofs.Tryz.func179 ag ag ag
theorem acL:aR P E2 BC (az BC):=aS Proofs.Tryz.func104 ag ag ag
def Di:aX:=nG::(vC,kH kR kR uM p8)::fQ
def fY (n:Nat) (k:Nat->Rat) (a b:Rat) (i:Nat):Rat:=a+(k i-k 0)/(k (n-1)-k 0)*(b-a)
def fo (n:Nat) (k:Nat->Rat) (i:Nat):Rat:=k 0+k (n-1)-k (n-1-i)
abbrev AE (m:Nat) (k:Nat->Rat) (s:Nat):au:=⟨true,true,3,m,fun i=>.rat (k i) s⟩
abbrev z9:List Nat:=[0,4,5,6,7,8,17,18,19]
abbrev JC (n:Nat) (k:Nat->Rat) (s i:Nat):List AV:=[bD k n s,.ptr 0 0 3 0 [],.ptr 1 0 3 0 [],.nil,.int .i64 0,.own 2 3 0 i,bD k n s,.int .i64 n,.int .i64 i]
abbrev Ij (i:Nat) (x:Nat->Rat) (a b:Rat) (r w:Nat):aF:=[(2,AE i x w),(1,tP b r),(0,tP a r)]
abbrev Ab:Code:=az BC
def lI (n:Nat) (a b:Rat):Nat:=if b<=a then 0 else n
def kj (a b:Rat):Int:=if b<=a then 7 else 0
abbrev xU (n:Nat) (k:Nat->Rat) (a b:Rat) (w:Nat):AV:=.tuple [bD (fY n k a b) (lI n a b) w,.int .i64 (kj a b)]
theorem XE {n s r:Nat} {k:Nat->Rat} {a b:Rat}:aI T Di [16] 60 z9 (before Ab [1,1,1,0,1]) ⟨aP 0 [bD k n s,.rat a r,.rat b r],[],0⟩=
  let c5:Prop:=r<2^42;let c4:AV:=ptr 0 0 (bt (rat a r)).size 0 [];let c3:AV:=ptr 4096 0 (bt (rat b r)).size 0 [];let c2:AV:=ak 3 n fun i=>rat (k i) s;let c1:List (Nat×au):=[(4096,au.mk false true (bt (rat b r)).size 1 fun x=>rat b r),(0,au.mk false true (bt (rat a r)).size 1 fun x=>rat a r)];some (aj [(0:Nat)<1,(0:Nat)<1,c5,c5] (fork (decide (e9 a b>=(0:Int))) (leaf ret ([c2,c4,c3,nil,int i64 7,tuple [],tuple [],tuple [],tuple []],c1)) (leaf normal ([c2,c4,c3,nil,int i64 0,nil,c2,int i64 (↑n:Int),int i64 0],c1)))):=ag
theorem agl {n s r w i:Nat} {k x:Nat->Rat} {a b:Rat}:aI T Di [20] 60 z9 [part Ab [1,1,1,0,1,0,0]] ⟨aE z9 (JC n k s i),Ij i x a b r w,3⟩=
  let c13:Nat:=r+r+1;let c12:Int:=(↑n:Int);let c11:AV:=ptr 1 0 3 0 [];let c10:AV:=ptr 0 0 3 0 [];let c9:Nat:=Int.toNat (0:Int);let c8:Int:=(↑i:Int);let c7:Int:=(2:Int)^63;let c5:AV:=ak 3 n fun i=>rat (k i) s;let c4:Nat:=s+s+1;let c3:Prop:=0<1;let c2:List (Nat×au):=[((1:Nat),aQ fun x=>rat b r),((0:Nat),aQ fun x=>rat a r)];let c1:Nat:=2^42;let c15:Int:=c8+(1:Int);let c14:Prop:=(0:Int)<=(0:Int)/\c9<n;let c6:Int:=c12-(1:Int);some (fork (decide (c8<c12)) (aj [(0:Int)<=c8/\c8.toNat<n,c3] (aj [c3,c14,s<c1,s<c1,-c7<=c6/\c6<c7,(0:Int)<=c6/\c6.toNat<n,c14,s<c1,s<c1,c4<c1,c4<c1,c3] (aj [c3,c3,c3,c3,r<c1,r<c1,c4+c4<c1,c13<c1,r<c1,c4+c4+c13<c1,(1:Nat)*3<=2^24,(i+1)*((56:Nat)+1)*2<=2^47] (aj [-c7<=c15/\c15<c7] (leaf normal ([c5,c10,c11,nil,int i64 0,own 147459 3 0 (i+1),c5,int i64 c12,int i64 c15],(147459,au.mk true true 3 (i+1) fun i_1=>if i_1<i then rat (x i_1) w else nth [rat (a+(k c8.toNat-k c9)/(k c6.toNat-k c9)*(b-a)) (r+(c4+c4+c13)+1)] (rat 0 1) (i_1-i+0))::c2)))))) (leaf (exit 0) ([c5,c10,c11,nil,int i64 0,own 2 3 0 i,c5,int i64 c12,int i64 c8],(2,au.mk true true 3 i fun i=>rat (x i) w)::c2))):=ag
theorem aeY {n s r w i:Nat} {k x:Nat->Rat} {a b:Rat}:cJ T Di [] 60 BC [part Ab [1,1,1,1]] ⟨aE z9 (JC n k s i),Ij i x a b r w,3⟩=
  some (leaf ret [ak 3 i fun i=>rat (x (i+0)) w,int i64 0]):=ag
theorem XN:bq P Di:=dg (aH (kT fun _ _ K hn=>Ci hn.1 hn.2 K) gm)
theorem Ur {n w:Nat} {k:Nat->Rat} {a b:Rat} (h:b<=a):en [.nil,.int .i64 7] (xU n k a b w):=
 ⟨by unfold lI;rw[if_pos h];exact ki (by decide),bN (by unfold kj;rw[if_pos h]),trivial⟩
theorem adi {n w:Nat} {k:Nat->Rat} {a b:Rat} (h:a<b):en [bD (fY n k a b) n w,.int .i64 0] (xU n k a b w):=by
 have h':¬b<=a:=Rat.not_le.2 h
 exact⟨by unfold lI;rw[if_neg h'];exact .refl _,bN (by unfold kj;rw[if_neg h']),trivial⟩
theorem aci {n s r w:Nat} {k:Nat->Rat} {a b:Rat} (h:4*s+3*r+4<=w) (hw:w<2^40) (hn1:1<=n) (hn:n<2^40) (K:Nat):aD P E2 K [bD k n s,.rat a r,.rat b r] [] (aK (xU n k a b w) []):=by
 have e0:((n:Int)-1).toNat=n-1:=aa
 refine gV (r:=aK (xU n k a b w) []) hT XN hm acL rfl aW rfl [1,1,1,0,1] (i:=0) (y:=part Ab [1,1,1,0,1,0,0]) (z:=part Ab [1,1,1,1]) ag ag ag (f1:=[16]) (f2:=[20]) (f3:=[]) 60 z9 3
  (fun i:Nat=>JC n k s i) (fun i=>Ij i (fY n k a b) a b r w) (fun i=>i<=n/\a<b) (fun i=>i=n/\a<b) (fun i=>n-i) (fun _=>⟨⟨_,XE,?_⟩,fun i hi=>⟨_,agl,?_⟩,fun i hi=>⟨_,aeY,?_⟩⟩) K []
 ·simp only[ah.all,aA,bh,bz,vZ]
  exact⟨aa,fun h1=>⟨_,ag,Ur h1⟩,fun h1=>⟨0,⟨aa,Rat.not_le.1 h1⟩,[(0,0),(1,4096)],rfl,rfl,rfl,mA rfl aa aa (aM (aM trivial))⟩⟩
 ·simp only[ah.all,aA,bh,bz,aZ,Nat.add_zero,Int.toNat_zero,e0]
  exact⟨fun h1=>⟨aa,aa,aa,aa,i+1,⟨aa,hi.2⟩,by dsimp only;omega,[(0,0),(1,1),(2,147459)],rfl,rfl,rfl,bZ rfl rfl rfl (fun j hj=>pI (fun _ _=>rfl) rfl aY aa hj) (aM (aM trivial))⟩,
   fun h1=>⟨rfl,i,⟨aa,hi.2⟩,[(0,0),(1,1),(2,2)],rfl,rfl,rfl,bZ rfl rfl rfl (fun j hj=>cQ rfl rfl) (aM (aM trivial))⟩⟩
 ·obtain⟨rfl,hab⟩:=hi
  simp only[ah.all,aA]
  exact adi hab
def RM (s r w:Nat):Spec:=cI (kC (kL s) (kC (fL r) (kC (fL r) kN))) (fun a=>xU a.1.1 a.1.2 a.2.1 a.2.2.1 w) fun a=>[1<=a.1.1,a.1.1<2^40]
theorem afE {s r w:Nat} (h:4*s+3*r+4<=w) (hw:w<2^40):∀K args pre q,RM s r w K args pre=some q->aD P E2 K args pre q:=cL fun⟨⟨n,k⟩,a,b,_⟩ K hn=>aci h hw hn.1 hn.2 K
def MY (s w:Nat):Spec:=cI (kC (kL s) kN) (fun a=>bD (fo a.1.1 a.1.2) a.1.1 w) fun a=>[a.1.1<2^40]
theorem abE {c:Nat} {u v:AV} (hv:v.isAgg=false) (h:bF u v):bF (.bI c u) (.bI c v):=by
 refine⟨rfl,fun M w cs hc=>?_⟩
 cases hc with
 |bI _ h1 h2=>cases h2;exact .bI hv (h.2 _ _ _ h1) .nil
def Vi (s:Nat):Kind (Nat×(Nat->Rat)):=⟨fun v=>match v with
 |.bI c v=>match(kL s).read v with
  |some (a,q)=>some (a,(c=a.1)::q)
  |none=>none
 |_=>none,fun a=>.bI a.1 (bD a.2 a.1 s),fun {v a q} h hq=>by
  split at h
  ·split at h
   ·rename_i h1
    simp only[ax,Prod.mk.injEq]at h
    obtain⟨rfl,rfl⟩:=h
    obtain⟨q1,q2⟩:=CT.1 hq
    subst q1
    exact abE rfl ((kL s).ok h1 q2)
   ·simp at h
  ·simp at h⟩
abbrev Dc:FuncId:=ahP
abbrev Ey:Func:=alc
def fz (k:Nat->Rat) (t:Rat):Nat->Nat
 |0=>0
 |n+1=>if fz k t n=n/\k n<=t then n+1 else fz k t n
def gl (k:Nat->Rat) (t:Rat) (p j:Nat):Rat:=if j<p then k j else if j=p then t else k (j-1)
abbrev yP:List Nat:=[3,9,10,11]
abbrev HW (n:Nat) (k:Nat->Rat) (s i:Nat):List AV:=[.bI n (.own 0 3 0 i),bD k n s,.int .i64 n,.int .i64 i]
abbrev Bm:aX:=cG::fQ
abbrev xG:List Nat:=[0,3,5]
abbrev Kc (n:Nat) (k:Nat->Rat) (s i:Nat):List AV:=[bD k n s,.ptr 0 0 3 0 [],.int .i64 i]
abbrev yg:Code:=az BO
def MD (w:Nat):Spec:=cI (kC (Vi w) (kC kI (kC (kL w) kN))) (fun a=>bD (gl a.1.2 (a.2.2.1.2 0) a.2.1.toNat) (a.1.1+1) w) fun a=>[0<=a.2.1,a.2.1<=a.1.1,a.2.2.1.1=1,a.1.1<2^40]
def Tm (s w:Nat):Spec:=cI (kC (kL s) kN) (fun a=>.bI a.1.1 (bD a.1.2 a.1.1 w)) fun a=>[a.1.1<2^40]
def By (s w:Nat):aX:=cG::(sC,Tm s w)::(Dc,MD w)::fQ
theorem V5:aR P Dc Ey (az Ey):=aS Proofs.Tryz.func250 ag ag ag
theorem air:aR P vF BO (az BO):=aS Proofs.Tryz.func184 ag ag ag
theorem afS {n i s:Nat} {k:Nat->Rat} {t:Rat}:bS T [cG] [22,100031] 60 Ey (az Ey) ⟨aP 0 [.bI n (bD k n s),.int .i64 i,bD (fun _=>t) 1 s],[],0⟩=
  let c11:Nat:=Int.toNat (0:Int);let c9:Int:=(↑n:Int);let c7:Int:=(2:Int)^63;let c4:Int:=(↑i:Int);let c14:Nat:=c4.toNat-c11;let c13:Prop:=(0:Int)<=c4;let c12:Nat:=0+c4.toNat;let c3:Int:=c9+(↑(1:Nat):Int);let c2:Int:=c4+(↑(1:Nat):Int);let c10:Nat:=0+c2.toNat;let c1:Nat:=c14+(c3-c4).toNat;let c8:Int:=(↑c1:Int);let c6:Nat:=c12+Min.min 1 (c8.toNat-c4.toNat);let c5:Nat:=c10+Min.min (c9.toNat-c4.toNat) (c8.toNat-c2.toNat);some (aj [c13/\c4<=c9/\c9<=c9] (fork (c4==c9) (aj [n<n+1/\(n+1)*((56:Nat)+1)*2<=2^47] (leaf ret [ak 3 (n+1) fun i=>if i+0<n then rat (k (i+0)) s else rat t s])) (aj [-c7<=c3/\c3<c7] (aj [decide (c3>c9)=true] (aj [(0:Int)<=(0:Int)/\c13/\c4<=c9,-c7<=c3/\c3<c7,-c7<=c3-c4/\c3-c4<c7,(0:Int)<c3-c4/\n-c11<c1/\c1*((56:Nat)+1)*2<=2^47] (aj [c13/\c4<=c8/\c8<=c8/\c8<=c8] (aj [-c7<=c2/\c2<c7,(0:Int)<=c2/\c2<=c8/\c8<=c8/\c8<=c8,c13/\c4<=c9/\c9<=c9] (leaf ret [ak 3 c1 fun i=>if c10<=i+0/\i+0<c5 then rat (k (i+0-c10+c4.toNat)) s else if c12<=i+0/\i+0<c6 then rat t s else if i+0<c14 then rat (k (i+0+c11)) s else rat 0 1])))))))):=ag
theorem V9 {n s:Nat} {k:Nat->Rat}:aI T Bm [] 60 yP (before ow [1,1,0,1]) ⟨aP 0 [bD k n s],[],0⟩=
  let c1:Int:=(↑n:Int);some (aj [(0:Int)<=(0:Int)/\(0:Int)<=c1/\c1<=(2:Int)^47/\c1*(↑(56:Nat):Int)<=(2:Int)^47] (leaf normal ([bI c1.toNat (own 12288 3 0 0),ak 3 n fun i=>rat (k i) s,int i64 c1,int i64 0],[(12288,au.mk true true 3 0 fun x=>rat 0 1)]))):=ag
theorem aaH {n i s w:Nat} {k x:Nat->Rat}:aI T Bm [12] 60 yP [part ow [1,1,0,1,0,0]] ⟨aE yP (HW n k s i),[(0,AE i x w)],1⟩=
  let c5:Int:=(↑n:Int);let c3:Nat:=i+1;let c2:AV:=ak 3 n fun i=>rat (k i) s;let c1:Int:=(↑i:Int);let c4:Int:=c1+(1:Int);some (fork (decide (c1<c5)) (aj [(0:Int)<=c1/\c1.toNat<n,(0:Nat)<1] (aj [(0:Nat)<1,s<2^42,(1:Nat)<2^42,(1:Nat)*3<=2^24,c3<=n,c3*((56:Nat)+1)*2<=2^47] (aj [-(2:Int)^63<=c4/\c4<(2:Int)^63] (leaf normal ([bI n (own 40961 3 0 c3),c2,int i64 c5,int i64 c4],[(40961,au.mk true true 3 c3 fun i_1=>if i_1<i then rat (x i_1) w else nth [rat (k c1.toNat+0) (s+1+1)] (rat 0 1) (i_1-i+0))]))))) (leaf (exit 0) ([bI n (own 0 3 0 i),c2,int i64 c5,int i64 c1],[(0,au.mk true true 3 i fun i=>rat (x i) w)]))):=ag
theorem aaB {n i s w:Nat} {k x:Nat->Rat}:cJ T Bm [] 60 FM [part ow [1,1,1]] ⟨aE yP (HW n k s i),[(0,AE i x w)],1⟩=
  some (leaf ret [bI n (ak 3 i fun i=>rat (x (i+0)) w)]):=ag
theorem akS {n s r w:Nat} {k:Nat->Rat} {t:Rat}:aI T (By s w) [] 60 xG (before yg [1,1,0]) ⟨aP 0 [bD k n s,.rat t r],[],0⟩=
  some (leaf normal ([ak 3 n fun i=>rat (k i) s,ptr 0 0 (bt (rat t r)).size 0 [],int i64 0],[(0,au.mk false true (bt (rat t r)).size 1 fun x=>rat t r)])):=ag
theorem aiA {n i s r w:Nat} {k:Nat->Rat} {t:Rat}:aI T (By s w) [10,18] 60 xG [part yg [1,1,0,0,0]] ⟨aE xG (Kc n k s i),[(0,tP t r)],1⟩=
  let c7:AV:=ak 3 n fun i=>rat (k i) s;let c5:AV:=ptr 0 0 3 0 [];let c4:Nat×au:=((0:Nat),aQ fun x=>rat t r);let c3:Int:=(↑i:Int);let c8:Int:=c3+(1:Int);let c6:Bool:=decide (c3<(↑n:Int));let c2:ah (List AV×aF):=leaf (exit 0) ([c7,c5,int i64 c3],[c4]);let c1:ah (List AV×aF):=aj [-(2:Int)^63<=c8/\c8<(2:Int)^63] (leaf normal ([c7,c5,int i64 c8],[c4]));some (fork c6 (aj [c6=true,(0:Int)<=c3/\c3.toNat<n,(0:Nat)<1,s<2^42,r<2^42] (fork (bif true then decide (e9 (k c3.toNat) t<=(0:Int))else false) c1 c2)) (aj [c6=false] (fork false c1 c2))):=ag
theorem afY {n i s r w:Nat} {k:Nat->Rat} {t:Rat}:cJ T (By s w) [] 60 BO [part yg [1,1,1]] ⟨aE xG (Kc n k s i),[(0,tP t r)],1⟩=
  let c3:AV:=rat 0 1;let c2:Prop:=n<2^40;let c1:AV:=rat (t+0) (r+1+1);some (aj [bT (fun i=>rat (k i) s) n s,c2,(0:Nat)<1,r<2^42,(1:Nat)<2^42,(1:Nat)*3<=2^24,n=n,bT (fun i=>rat (aV (rat (k i) s)) w) n w,bT (fun i=>nth [c1] c3 (i+0)) 1 w,(0:Int)<=(↑i:Int),(↑i:Int)<=(↑n:Int),(1:Nat)=1,c2] (leaf ret [ak 3 (n+1) fun i_1=>rat (gl (fun i=>aV (rat (aV (rat (k i) s)) w)) (aV (nth [c1] c3 ((0:Nat)+0))) (↑i:Int).toNat i_1) w])):=ag
theorem HX {Γ:aX} (h:bq P Γ):bq P (cG::Γ):=aH (fun _ _ _ _ h=>nomatch h) h
theorem Nd {a b:Rat}:e9 a b<=(0:Int)↔a<=b:=by
 have:=@uW a b
 constructor
 ·intro h
  exact Rat.not_lt.1 fun h'=>by have:=uW.2 h';omega
 ·intro h
  have:¬e9 a b>0:=fun h'=>Rat.not_lt.2 h (uW.1 h')
  omega
theorem TX {k:Nat->Rat} {t:Rat} {n:Nat} (h:fz k t n=n) (h2:k n<=t):fz k t (n+1)=n+1:=by unfold fz;rw[if_pos ⟨h,h2⟩]
theorem I0 {k:Nat->Rat} {t:Rat} {i:Nat} (h:fz k t i=i) (h2:t<k i):∀{n:Nat},i<=n->fz k t n=i
 |0,hn=>by
    have:i=0:=aa
    subst this;rfl
 |n+1,hn=>by
  by_cases he:i=n+1
  ·subst he;exact h
  ·have ih:=I0 h h2 (n:=n) aa
   unfold fz
   rw[if_neg,ih]
   rintro⟨g1,g2⟩
   have:i=n:=aa
   subst this
   exact absurd h2 (Rat.not_lt.2 g2)
theorem amn {n i s:Nat} {k:Nat->Rat} {t:Rat} (hi:i<=n) (hn:n<2^40) (K:Nat):aD P Dc K [.bI n (bD k n s),.int .i64 i,bD (fun _=>t) 1 s] [] (aK (bD (gl k t i) (n+1) s) []):=by
 refine bY (r:=aK (bD (gl k t i) (n+1) s) []) hT (HX bC) hm V5 rfl aW rfl 60 afS (fun _=>?_) K []
 simp only[ah.all,aA,bh,bz]
 have w1:((1:Nat):Int)=1:=rfl
 simp only[w1,aZ,Int.toNat_zero,Nat.sub_zero,Nat.zero_add,Nat.add_zero,beq_iff_eq,beq_eq_false_iff_ne,ne_eq,Int.ofNat_inj]
 refine⟨aa,fun h=>⟨aa,fG fun j hj=>dL ?_⟩,fun h=>?_⟩
 ·subst h
  unfold gl
  by_cases h1:j<i
  ·rw[if_pos h1,if_pos h1]
  ·rw[if_neg h1,if_neg h1,if_pos aa]
 ·have eN:i+((n:Int)+1-i).toNat=n+1:=aa
  have e2:((i:Int)+1).toNat=i+1:=aa
  simp only[eN,e2]
  refine⟨aa,aa,aa,aa,aa,fG fun j hj=>dL ?_⟩
  unfold gl
  by_cases h1:j<i
  ·rw[if_neg aa,if_neg aa,if_pos h1,if_pos h1]
  ·by_cases h2:j=i
   ·rw[if_neg aa,if_pos aa,if_neg h1,if_pos h2]
   ·rw[if_pos aa,if_neg h1,if_neg h2,show j-(i+1)+i=j-1 by omega]
theorem Zx:bq P Bm:=HX gm
theorem Ub {n s w:Nat} {k:Nat->Rat} (h:s+2<=w) (hw:w<2^40) (hn:n<2^40) (K:Nat):aD P sC K [bD k n s] [] (aK (.bI n (bD k n w)) []):=by
 refine gV (r:=aK (.bI n (bD k n w)) []) hT Zx hm HK rfl aW rfl [1,1,0,1] (i:=0) (y:=part ow [1,1,0,1,0,0]) (z:=part ow [1,1,1]) ag ag ag (f1:=[]) (f2:=[12]) (f3:=[]) 60 yP 1
  (fun i:Nat=>HW n k s i) (fun i=>[(0,AE i k w)]) (fun i=>i<=n) (fun i=>i=n) (fun i=>n-i) (fun _=>⟨⟨_,V9,?_⟩,fun i hi=>⟨_,aaH,?_⟩,fun i hi=>⟨_,aaB,?_⟩⟩) K []
 ·simp only[ah.all,aA]
  exact⟨aa,0,Nat.zero_le _,[(0,12288)],rfl,by rw[aZ];rfl,rfl,bZ rfl rfl rfl (fun j hj=>absurd hj (Nat.not_lt_zero j)) trivial⟩
 ·simp only[ah.all,aA,bh,bz,aZ,Nat.add_zero]
  exact⟨fun h1=>⟨aa,aa,aa,i+1,aa,by dsimp only;omega,[(0,40961)],rfl,rfl,rfl,bZ rfl rfl rfl (fun j hj=>pI (fun _ _=>rfl) (Rat.add_zero _) aY aa hj) trivial⟩,
   fun h1=>⟨rfl,i,aa,[(0,0)],rfl,rfl,rfl,eG trivial⟩⟩
 ·subst hi
  simp only[ah.all,aA]
  exact .refl _
theorem adj {s w:Nat} (h:s+2<=w) (hw:w<2^40):∀K args pre r,Tm s w K args pre=some r->aD P sC K args pre r:=cL fun⟨⟨n,k⟩,_⟩ K hn=>Ub h hw hn K
theorem ak6 {w:Nat}:∀K args pre r,MD w K args pre=some r->aD P Dc K args pre r:=cL fun⟨⟨n,k⟩,i,⟨m,g⟩,_⟩ K hn=>by
 obtain⟨h1,h2,h3,h4⟩:=hn
 simp only at h1 h2 h3 h4
 subst h3
 have:=gR (amn (k:=k) (t:=g 0) (s:=w) (i:=i.toNat) (n:=n) aa h4 K) (args:=[.bI n (bD k n w),.int .i64 i,bD g 1 w]) rfl ⟨.refl _,bN aa,fG fun j hj=>dL (by rw[Nat.lt_one_iff.1 hj]),trivial⟩ []
 exact this
theorem ae8 {s w:Nat} (h:s+2<=w) (hw:w<2^40):bq P (By s w):=HX (aH (adj h hw) (aH ak6 gm))
theorem L7 {n s r w:Nat} {k:Nat->Rat} {t:Rat} (h:s+2<=w) (h2:r+2<=w) (hw:w<2^40) (hn:n<2^40) (K:Nat):aD P vF K [bD k n s,.rat t r] [] (aK (bD (gl k t (fz k t n)) (n+1) w) []):=by
 refine gV (r:=aK (bD (gl k t (fz k t n)) (n+1) w) []) hT (ae8 h hw) hm air rfl aW rfl [1,1,0] (i:=0) (y:=part yg [1,1,0,0,0]) (z:=part yg [1,1,1]) ag ag ag (f1:=[]) (f2:=[10,18]) (f3:=[]) 60 xG 1
  (fun i:Nat=>Kc n k s i) (fun _=>[(0,tP t r)]) (fun i=>i<=n/\fz k t i=i) (fun i=>i<=n/\i=fz k t n) (fun i=>n-i) (fun _=>⟨⟨_,akS,?_⟩,fun i hi=>⟨_,aiA,?_⟩,fun i hi=>⟨_,afY,?_⟩⟩) K []
 ·simp only[ah.all,aA]
  exact⟨0,⟨Nat.zero_le _,rfl⟩,[(0,0)],rfl,rfl,rfl,aM trivial⟩
 ·simp only[ah.all,aA,bh,bz,aZ]
  simp only[cond_true,bh,bz,Nd]
  exact⟨fun h1=>⟨⟨h1,aa,aa,aa,aa⟩,fun h2=>⟨aa,i+1,⟨aa,TX hi.2 h2⟩,by dsimp only;omega,[(0,0)],rfl,rfl,rfl,aM trivial⟩,
    fun h2=>⟨rfl,i,⟨aa,(I0 hi.2 (Rat.not_le.1 h2) aa).symm⟩,[(0,0)],rfl,rfl,rfl,aM trivial⟩⟩,
   fun h1=>⟨h1,fun h=>absurd h (by decide),fun _=>⟨rfl,i,⟨hi.1,by rw[show n=i by omega];exact hi.2.symm⟩,[(0,0)],rfl,rfl,rfl,aM trivial⟩⟩⟩
 ·obtain⟨hi,rfl⟩:=hi
  simp only[ah.all,aA]
  refine⟨⟨cz aY,aa,aa,aa,aa,aa,trivial,cz aY,fun j hj=>?_,aa,aa,trivial,aa⟩,fG fun j hj=>dL ?_⟩
  ·rw[Nat.lt_one_iff.1 hj];exact gj aa
  ·show AV.rat (gl k (t+0) ((fz k t n:Nat):Int).toNat j) w=_
   rw[Rat.add_zero,aZ]
def RG (s w:Nat):Spec:=cI (kC (kL s) (kC (fL s) kN)) (fun a=>bD (gl a.1.2 a.2.1 (fz a.1.2 a.2.1 a.1.1)) (a.1.1+1) w) fun a=>[a.1.1<2^40]
theorem agG {s w:Nat} (h:s+2<=w) (hw:w<2^40):∀K args pre r,RG s w K args pre=some r->aD P vF K args pre r:=cL fun⟨⟨n,k⟩,t,_⟩ K hn=>L7 h h hw hn K
theorem aee:aR P v8 BW (az BW):=aS Proofs.Tryz.func155 ag ag ag
abbrev zl (y m:Nat) (k:Nat->Rat):au:=⟨true,true,3,m,fun i=>.rat (k i) y⟩
abbrev yL:Code:=az BW
abbrev yV:List Nat:=[3,9,10,11]
abbrev Jx (x n:Nat) (k:Nat->Rat) (i:Nat):List AV:=[.own 0 3 0 i,bD k n x,.int .i64 n,.int .i64 i]
def Ex:aX:=nG::fQ
theorem ZU {x n:Nat} {k:Nat->Rat}:aI T Ex [] 60 yV (before yL [1,1,0,1]) ⟨aP 0 [bD k n x],[],0⟩=
  let c1:Int:=(↑n:Int);some (aj [(0:Int)<=(0:Int)/\(0:Int)<=c1/\c1<=(2:Int)^47/\c1*(↑(56:Nat):Int)<=(2:Int)^47] (leaf normal ([own 12288 3 0 0,ak 3 n fun i=>rat (k i) x,int i64 c1,int i64 0],[(12288,au.mk true true 3 0 fun x=>rat 0 1)]))):=ag
theorem alz {x y n i:Nat} {k:Nat->Rat}:aI T Ex [12] 60 yV [part yL [1,1,0,1,0,0]] ⟨aE yV (Jx x n k i),[(0,zl y i k)],1⟩=
  let c4:Int:=(↑n:Int);let c2:AV:=ak 3 n fun i=>rat (k i) x;let c1:Int:=(↑i:Int);let c3:Int:=c1+(1:Int);some (fork (decide (c1<c4)) (aj [(0:Int)<=c1/\c1.toNat<n,(0:Nat)<1] (aj [(0:Nat)<1,x<2^42,(1:Nat)<2^42,(1:Nat)*3<=2^24,(i+1)*((56:Nat)+1)*2<=2^47] (aj [-(2:Int)^63<=c3/\c3<(2:Int)^63] (leaf normal ([own 40961 3 0 (i+1),c2,int i64 c4,int i64 c3],[(40961,au.mk true true 3 (i+1) fun i_1=>if i_1<i then rat (k i_1) y else nth [rat (k c1.toNat+0) (x+1+1)] (rat 0 1) (i_1-i+0))]))))) (leaf (exit 0) ([own 0 3 0 i,c2,int i64 c4,int i64 c1],[(0,au.mk true true 3 i fun i=>rat (k i) y)]))):=ag
theorem ahx {x y n i:Nat} {k:Nat->Rat}:cJ T Ex [] 60 BW [part yL [1,1,1]] ⟨aE yV (Jx x n k i),[(0,zl y i k)],1⟩=
  some (leaf ret [ak 3 i fun i=>rat (k (i+0)) y]):=ag
theorem aco:bq P Ex:=dg gm
theorem aiK {x y n:Nat} {k:Nat->Rat} (hxy:x+10<=y) (hy:y<2^40) (hn:n<2^40) (K:Nat):aD P v8 K [bD k n x] [] (aK (bD k n y) []):=by
 refine gV (r:=aK (bD k n y) []) hT aco hm aee rfl aW rfl [1,1,0,1] (i:=0) (y:=part yL [1,1,0,1,0,0]) (z:=part yL [1,1,1]) ag ag ag (f1:=[]) (f2:=[12]) (f3:=[]) 60 yV 1
  (fun i:Nat=>Jx x n k i) (fun i=>[(0,zl y i k)]) (fun i=>i<=n) (fun i=>i=n) (fun i=>n-i) (fun _=>⟨⟨_,ZU,?_⟩,fun i hi=>⟨_,alz,?_⟩,fun i hi=>⟨_,ahx,?_⟩⟩) K []
 ·simp only[ah.all,aA]
  exact⟨aa,0,Nat.zero_le _,[(0,12288)],rfl,rfl,rfl,bZ rfl rfl rfl (fun i hi=>absurd hi (Nat.not_lt_zero i)) trivial⟩
 ·simp only[ah.all,aA,bh,bz,aZ,Nat.add_zero]
  exact⟨fun h2=>⟨aa,aa,aa,i+1,aa,by dsimp only;omega,[(0,40961)],rfl,rfl,rfl,bZ rfl rfl rfl (fun j hj=>pI (fun _ _=>rfl) (Rat.add_zero _) aY aa hj) trivial⟩,fun h2=>⟨rfl,i,aa,[(0,0)],rfl,rfl,rfl,bZ rfl rfl rfl (fun j hj=>cQ rfl rfl) trivial⟩⟩
 ·subst hi
  simp only[ah.all,aA]
  exact oQ rfl fun j hj=>rfl
def AS (x y:Nat):Spec:=cI (kC (kL x) kN) (fun a=>bD a.1.2 a.1.1 y) fun a=>[x+10<=y,y<2^40,a.1.1<2^40]
theorem Ja (x y:Nat):∀K args pre r,AS x y K args pre=some r->aD P v8 K args pre r:=cL fun⟨⟨n,k⟩,_⟩ K hn=>aiK hn.1 hn.2.1 hn.2.2 K
end Go.Am.B
