/- fF.Check, ref08.Check. -/
import Derived.Test.YtppeigelbecpbaaGreatY37
import Derived.Test.YtppeigelbecpbaaGreatZ2
set_option linter.unusedVariables false
namespace Go.Am.B
open Go Go.Am.N AV aa aj IntKind
theorem aa5:aO P tC ri (au ri):=aQ agE (by kernel_rfl) (by kernel_rfl) (by kernel_rfl)
noncomputable def C2:aR:=(wg,PO)::(AE,HH)::(sj,EG)::tL
noncomputable abbrev zl:Code:=au ri
abbrev ry:List Nat:=[0,1,4,48,49,50]
abbrev FR (n:Nat) (k:Nat→Rat) (p:Int) (d:Nat) (f:Nat→Rat) (i:Nat):List AV:=[bt k n sJ,.int .i64 p,.int .i64 0,bt f d sK,.int .i64 d,.int .i64 i]
theorem ai1 {n:Nat} {k:Nat→Rat} {p:Int}:aH T C2 [18,15,22,29,35,46] 60 ry (before zl [1,1,1,0,1]) ⟨aN 0 [bt k n sJ,.int .i64 p],[],0⟩=
  let c16:Int:=(↑n:Int);let c15:Prop:=bG (fun i↦rat (k i) sJ) n sK;let c14:Nat:=Int.toNat (0:Int);let c13:Nat:=bX (fun i↦aS (rat (k i) sJ)) n;let c11:Bool:=decide (p<(1:Int));let c10:Int:=i64.wrap (i64.wrap ((2:Int)*p)+(2:Int));let c9:Prop:=n<2^40;let c7:List AV:=[tuple [],tuple [],tuple []];let c6:Bool:=!oU (qR n fun i↦aS (rat (k i) sJ));let c3:AV:=ak 3 n fun i↦rat (k i) 4000;let c12:List AV:=c3::int i64 p::int i64 (1:Int)::c7;let c8:Int:=i64.wrap (i64.wrap (c16-p)-(1:Int));let c5:Int:=i64.wrap (c16-(1:Int));let c4:aa (List AV×aC):=leaf ret (c3::int i64 p::int i64 (5:Int)::c7,[]);let c2:aa (List AV×aC):=ag [bG (fun i↦rat (k i) sJ) n sJ,c9] (leaf normal ([c3,int i64 p,int i64 (0:Int),ak 3 c13 fun i↦rat (dD (fun i↦aS (rat (k i) sJ)) n i) 4096,int i64 (↑c13:Int),int i64 (0:Int)],[]));let c1:aa (List AV×aC):=fork (decide (c16<c10)) c4 (fork (decide (c8>(40:Int))) (leaf ret (c3::int i64 p::int i64 (2:Int)::c7,[])) (fork c6 (ag [c15,c9,c6=true] (fork true c4 c2)) (ag [c15,c9,c6=false,(0:Int)≤(0:Int)∧c14<n,(0:Int)≤c5∧c5.toNat<n] (fork (bif false then true else decide (k c14=k c5.toNat)) c4 c2))));some (fork c11 (ag [c11=true] (fork true (leaf ret (c12,[])) c1)) (ag [c11=false] (fork (bif false then true else decide (p>(6:Int))) (leaf ret (c12,[])) c1))):=by kernel_rfl
theorem Vu {n d i:Nat} {k f:Nat→Rat} {p:Int}:aH T C2 [51,62,73,79,82,87] 60 ry [part zl [1,1,1,0,1,0,0]] ⟨aA ry (FR n k p d f i),[],1⟩=
  let c18 : Int := (↑d : Int); let c16 : Prop := false = false; let c13 : Int := (↑i : Int); let c12 : Prop := 0 < 1; let c11 : AV := ak 3 d fun i ↦ rat (f i) 4096; let c10 : AV := ak 3 n fun i ↦ rat (k i) 4000; let c9 : Int := i64.wrap ((↑n : Int) - (1 : Int)); let c8 : Nat := Int.toNat (0 : Int); let c17 : Prop := (0 : Int) ≤ (0 : Int) ∧ c8 < n; let c14 : List AV := [c11, int i64 c18, int i64 c13]; let c7 : Rat := f c13.toNat; let c1 : aa (List AV × aC) := leaf normal ([c10, int i64 p, int i64 (0 : Int), c11, int i64 c18, int i64 (i64.wrap (c13 + (1 : Int)))], []); let c15 : Bool := decide (c7 = k c8); let c4 : Int := (↑(bT (fun i ↦ aS (rat (k i) sJ)) c7 n) : Int); let c3 : Bool := bif false then true else decide (c7 = k c9.toNat); let c2 : aa (List AV × aC) := leaf ret (c10 :: int i64 p :: int i64 (5 : Int) :: c14, []); let c6 : aa (List AV × aC) := fork (bif false then true else bif true then decide (c4 > p) else false) c2 c1; let c5 : Bool := bif true then c4 != i64.wrap (p + (1 : Int)) else false; some (fork (decide (c13 < c18)) (ag [(0 : Int) ≤ c13 ∧ c13.toNat < d, c12] (ag [c12, bG (fun i ↦ rat (k i) sJ) n sK, sK ≤ sK, n < 2 ^ 40] (fork c15 (ag [c12, c17, c15 = true] (fork true (fork c5 (ag [true = true, c5 = true] (fork true c2 c1)) (fork false (ag [true = true, c5 = false, (!true) = true] c6) (ag [true = true, c5 = false, (!true) = false] (fork false c2 c1)))) (fork false (ag [true = false, false = true] (fork true c2 c1)) (fork false (ag [true = false, c16, (!true) = true] c6) (ag [true = false, c16, (!true) = false] (fork false c2 c1)))))) (ag [c12, c17, c15 = false, c12, (0 : Int) ≤ c9 ∧ c9.toNat < n] (fork c3 (fork c5 (ag [c3 = true, c5 = true] (fork true c2 c1)) (fork (!c3) (ag [c3 = true, c5 = false, (!c3) = true] c6) (ag [c3 = true, c5 = false, (!c3) = false] (fork false c2 c1)))) (fork false (ag [c3 = false, false = true] (fork true c2 c1)) (fork (!c3) (ag [c3 = false, c16, (!c3) = true] c6) (ag [c3 = false, c16, (!c3) = false] (fork false c2 c1))))))))) (leaf (exit 1) (c10 :: int i64 p :: int i64 (0 : Int) :: c14, []))) := by kernel_rfl
theorem Sy {n d i:Nat} {k f:Nat→Rat} {p:Int}:cm T C2 [] 60 ri [part zl [1,1,1,1]] ⟨aA ry (FR n k p d f i),[],1⟩=
  some (leaf ret [int i64 (0:Int)]):=by kernel_rfl
theorem Tv:aY P C2:=aG Te (aG Ld (aG QV vm))
def sk (n:Nat) (p:Int):Prop:=1≤p∧p≤6∧2*p+2≤(n:Int)∧(n:Int)-p-1≤40
theorem Zf {n:Nat} {k:Nat→Rat} {p:Int} (hn:n<2^40) (K:Nat):aB P tC K [bt k n sJ,.int .i64 p] [] (aK (.int .i64 (gp n k p)) []):=by
 refine gO (r:=aK (.int .i64 (gp n k p)) []) hT Tv hm aa5 rfl (of_decide_eq_true (by kernel_rfl)) rfl [1,1,1,0,1] (i:=1) (y:=part zl [1,1,1,0,1,0,0]) (z:=part zl [1,1,1,1]) (by kernel_rfl) (by kernel_rfl) (by kernel_rfl) (f1:=[18,15,22,29,35,46]) (f2:=[51,62,73,79,82,87]) (f3:=[]) 60 ry 1
  (fun i:Nat=>FR n k p (bX k n) (dD k n) i) (fun _=>[]) (fun i=>i≤bX k n∧sk n p∧qR n k∧k 0≠k (n-1)∧∀j,j<i→¬ke n k p.toNat (dD k n j)) (fun _=>sk n p∧qg n k p.toNat) (fun i=>bX k n-i) (fun _=>⟨⟨_,ai1,?_⟩,fun i ⟨h1,h2,h3,h4,h5⟩=>⟨_,Vu,?_⟩,fun i ⟨h1,h2⟩=>⟨_,Sy,?_⟩⟩) K []
 ·have r:∀{e:Int} {u:AV},gp n k p=e→nU ri ry (.int .i64 (gp n k p)) ([u,.int .i64 p,.int .i64 e,.tuple [],.tuple [],.tuple []],[]):=fun h=>⟨[.int .i64 _],by kernel_rfl,bw h.symm⟩
  by_cases hp:1≤p∧p≤6
  ·have e1:i64.wrap (i64.wrap (2*p)+2)=2*p+2:=by rw[wrap_i64 (show-2^63≤2*p by omega) (by omega)];exact wrap_i64 (by omega) (by omega)
   have e2:i64.wrap (i64.wrap ((n:Int)-p)-1)=(n:Int)-p-1:=by rw[wrap_i64 (show-2^63≤(n:Int)-p by omega) (by omega)];exact wrap_i64 (by omega) (by omega)
   have e3:i64.wrap ((n:Int)-1)=(n:Int)-1:=wrap_i64 (by omega) (by omega)
   have e5:((n:Int)-1).toNat=n-1:=by omega
   simp only[aa.all,ax,decide_eq_true_eq,decide_eq_false_iff_not,Bool.not_eq_true',Bool.not_eq_false',cond_true,cond_false,Int.toNat_natCast,Int.toNat_zero,vR,e1,e2,e3,e5]
   (repeat' with_reducible first|refine And.intro ?_ ?_|intro _)
   all_goals first|exact absurd ‹true=false› (by decide)|exact absurd ‹false=true› (by decide)|omega|(exfalso;omega)|exact cM (by decide)|assumption|exact r (Ul (by omega) (by omega))|exact r (agZ (by omega) (by omega) (by omega))|exact r (F3 (by omega) (by omega) (by omega) fun h=>TH ‹_› h.1)|exact r (F3 (by omega) (by omega) (by omega) fun h=>h.2.1 ‹_›)|exact⟨0,⟨Nat.zero_le _,⟨by omega,by omega,by omega,by omega⟩,ZV ‹_›,‹_›,fun j hj=>absurd hj (Nat.not_lt_zero j)⟩,dU.vals rfl⟩|skip
   skip
  ·simp only[aa.all,ax,decide_eq_true_eq,decide_eq_false_iff_not,Bool.not_eq_true',Bool.not_eq_false',cond_true,cond_false,Int.toNat_natCast]
   (repeat' with_reducible first|refine And.intro ?_ ?_|intro _)
   all_goals first|exact absurd ‹true=false› (by decide)|exact absurd ‹false=true› (by decide)|omega|(exfalso;omega)|exact r (Zy (by omega))|skip
   skip
 ·obtain⟨q,rfl⟩:∃q:Nat,p=(q:Int):=⟨p.toNat,by have:=h2.1;omega⟩
  have hq:=h2
  unfold sk at hq
  have e1:i64.wrap ((q:Int)+1)=((q+1:Nat):Int):=by rw[wrap_i64 (by omega) (by omega)];rfl
  have e2:i64.wrap ((i:Int)+1)=((i+1:Nat):Int):=by rw[wrap_i64 (by omega) (by have:=rm (k:=k) (n:=n);omega)];rfl
  have e3:i64.wrap ((n:Int)-1)=(n:Int)-1:=wrap_i64 (by omega) (by omega)
  have e5:((n:Int)-1).toNat=n-1:=by omega
  simp only[Int.toNat_natCast]at h5
  have hd:=rm (k:=k) (n:=n)
  have r:∀{u v w x y:AV},ke n k q (dD k n i)→i<bX k n→nU ri ry (.int .i64 (gp n k q)) ([u,v,.int .i64 5,w,x,y],[]):=fun h hi=>⟨[.int .i64 5],by kernel_rfl,bw (F3 (by omega) (by omega) (by omega) fun hk=>hk.2.2 i hi (by rw[Int.toNat_natCast];exact h)).symm⟩
  have nx:¬ke n k q (dD k n i)→i<bX k n→∀j,j<i+1→¬ke n k q (dD k n j):=fun h hi j hj=>by
   by_cases he:j=i
   ·subst he;exact h
   ·exact h5 j (by omega)
  simp only[aa.all,ax,decide_eq_true_eq,decide_eq_false_iff_not,Bool.not_eq_true',Bool.not_eq_false',cond_true,cond_false,Int.toNat_natCast,Int.toNat_zero,vR,e1,e2,e3,e5,bne_iff_ne,bne_eq_false_iff_eq,ne_eq]
  obtain⟨c,hc⟩:∃c,bT k (dD k n i) n=c:=⟨_,rfl⟩
  have hc':bT (fun i=>k i) (dD k n i) n=c:=hc
  simp only[hc']
  have b1:dD k n i=k 0→c≠q+1→ke n k q (dD k n i):=fun h1 h2=>.inl ⟨.inl h1,by rw[hc];exact h2⟩
  have b2:dD k n i=k (n-1)→c≠q+1→ke n k q (dD k n i):=fun h1 h2=>.inl ⟨.inr h1,by rw[hc];exact h2⟩
  have b3:¬dD k n i=k 0→¬dD k n i=k (n-1)→q<c→ke n k q (dD k n i):=fun h1 h2 h3=>.inr ⟨fun h=>h.elim h1 h2,by rw[hc];exact h3⟩
  have g1:dD k n i=k 0→c=q+1→¬ke n k q (dD k n i):=by
   rintro h1 h2 (⟨_,h3⟩|⟨h3,_⟩)
   ·exact h3 (by rw[hc];exact h2)
   ·exact h3 (.inl h1)
  have g2:dD k n i=k (n-1)→c=q+1→¬ke n k q (dD k n i):=by
   rintro h1 h2 (⟨_,h3⟩|⟨h3,_⟩)
   ·exact h3 (by rw[hc];exact h2)
   ·exact h3 (.inr h1)
  have g3:¬dD k n i=k 0→¬dD k n i=k (n-1)→c≤q→¬ke n k q (dD k n i):=by
   rintro h1 h2 h3 (⟨h4,_⟩|⟨_,h4⟩)
   ·exact h4.elim h1 h2
   ·rw[hc]at h4;omega
  clear hc hc'
  (repeat' with_reducible first|refine And.intro ?_ ?_|intro _)
  all_goals first|exact absurd ‹true=false› (by decide)|exact absurd ‹false=true› (by decide)|omega|(exfalso;omega)|exact cM (by decide)|assumption|skip
  all_goals first
   |exact absurd ‹dD k n i=k (n-1)› ‹_›
   |exact⟨rfl,i,⟨h2,h3,h4,fun j hj=>h5 j (by omega)⟩,dU.vals rfl⟩
   |exact r (b1 ‹_› (by omega)) (by omega)
   |exact r (b2 ‹_› (by omega)) (by omega)
   |exact r (b3 ‹¬_=k 0› ‹_› (by have:=of_decide_eq_true ‹decide _=true›;omega)) (by omega)
   |exact⟨i+1,⟨by omega,h2,h3,h4,nx (g1 ‹_› (by omega)) (by omega)⟩,by dsimp only;omega,dU.vals rfl⟩
   |exact⟨i+1,⟨by omega,h2,h3,h4,nx (g2 ‹_› (by omega)) (by omega)⟩,by dsimp only;omega,dU.vals rfl⟩
   |exact⟨i+1,⟨by omega,h2,h3,h4,nx (g3 ‹¬_=k 0› ‹_› (by have:=of_decide_eq_false ‹decide _=false›;omega)) (by omega)⟩,by dsimp only;omega,dU.vals rfl⟩
 ·simp only[aa.all,ax]
  exact bw (U5 (by have:=h1;unfold sk at this;omega) (by have:=h1;unfold sk at this;omega) (by have:=h1;unfold sk at this;omega) h2).symm
noncomputable def G8:Spec:=cQ (kC (kL sJ) (kC kI kN)) (fun a=>.int .i64 (gp a.1.1 a.1.2 a.2.1)) fun a=>[a.1.1<2^40]
theorem Pm:∀K args pre r,G8 K args pre=some r→aB P tC K args pre r:=cU fun⟨⟨n,k⟩,p,_⟩ K hn=>Zf hn K
end Go.Am.B

/- Poles, lists of we, curves, surfaces as arguments. -/
namespace Go.Am.B
open Go Go.Am.N AV
def dL:AV→Pl
 |.agg [.agg [x,y,z],w]=>⟨⟨aS x,aS y,aS z⟩,aS w⟩
 |_=>⟨⟨0,0,0⟩,0⟩
def eI (f:Nat→AV) (n s:Nat):Prop:=∀i,i<n→bB (f i) (bu (dL (f i)) s)
abbrev gV (f:Nat→Pl) (n s:Nat):AV:=.ak 12 n (fun i=>bu (f i) s)
theorem IM {u v:Pl} {n k:Nat} (h:u=v) (hk:n≤k):bB (bu u n) (bu v k):=
 h▸dn ⟨lT rfl hk,bS rfl hk,trivial⟩
theorem jO {f:Nat→Pl} {n s s':Nat} (h:s≤s'):eI (fun i=>bu (f i) s) n s':=fun _ _=>IM rfl h
def u7:AV→Option (Nat×(Nat→AV))
 |.ak 12 n f=>some (n,f)
 |.nil=>some (0,fun _=>.nil)
 |_=>none
theorem ajf {v:AV} {n s:Nat} {f:Nat→AV} (h:u7 v=some (n,f)) (ha:eI f n s):bB v (gV (fun i=>dL (f i)) n s):=by
 unfold u7 at h
 split at h
 ·simp only[Option.some.injEq,Prod.mk.injEq]at h
  obtain⟨rfl,rfl⟩:=h
  exact mN ha
 ·simp only[Option.some.injEq,Prod.mk.injEq]at h
  obtain⟨rfl,rfl⟩:=h
  exact kT (by omega)
 ·simp at h
def ve (s:Nat):Kind (Nat×(Nat→Pl)):=⟨fun v=>match u7 v with
 |some (n,f)=>some ((n,fun i=>dL (f i)),[eI f n s])
 |none=>none,fun a=>gV a.2 a.1 s,fun {v a q} h hq=>by
  split at h
  ·rename_i h1
   simp only[Option.some.injEq,Prod.mk.injEq]at h
   obtain⟨rfl,rfl⟩:=h
   exact ajf h1 hq
  ·simp at h⟩
abbrev cL (h:Pl) (s:Nat):AV:=.agg [.rat h.n.x s,.rat h.n.y s,.rat h.n.z s,.rat h.d s]
def Fb (s:Nat):Kind Pl:=⟨fun v=>match v with
 |.agg [x,y,z,w]=>match iS x,iS y,iS z,iS w with
  |some (x,a),some (y,b),some (z,c),some (w,d)=>some (⟨⟨x,y,z⟩,w⟩,[a≤s,b≤s,c≤s,d≤s])
  |_,_,_,_=>none
 |_=>none,fun a=>cL a s,fun {v a q} h hq=>by
  split at h
  ·split at h
   ·rename_i h1 h2 h3 h4
    simp only[Option.some.injEq,Prod.mk.injEq]at h
    obtain⟨rfl,rfl⟩:=h
    exact dn ⟨(jv h1).trans (bS rfl hq.1),(jv h2).trans (bS rfl hq.2.1),(jv h3).trans (bS rfl hq.2.2.1),(jv h4).trans (bS rfl hq.2.2.2),trivial⟩
   ·simp at h
  ·simp at h⟩
structure Cu where
 p:Int
 n:Nat
 k:Nat→Rat
 m:Nat
 f:Nat→Pl
abbrev cI (c:Cu) (s r:Nat):AV:=.agg [.int .i64 c.p,bt c.k c.n s,gV c.f c.m r]
def jF (s r:Nat):Kind Cu:=⟨fun v=>match v with
 |.agg [p,k,f]=>match kI.read p,(kL s).read k,(ve r).read f with
  |some (p,q1),some ((n,k),q2),some ((m,f),q3)=>some (⟨p,n,k,m,f⟩,q1++(q2++q3))
  |_,_,_=>none
 |_=>none,fun a=>cI a s r,fun {v a q} h hq=>by
  split at h
  ·split at h
   ·rename_i h1 h2 h3
    simp only[Option.some.injEq,Prod.mk.injEq]at h
    obtain⟨rfl,rfl⟩:=h
    obtain⟨q1,hq⟩:=dG.1 hq
    obtain⟨q2,q3⟩:=dG.1 hq
    exact dn ⟨kI.ok h1 q1,(kL s).ok h2 q2,(ve r).ok h3 q3,trivial⟩
   ·simp at h
  ·simp at h⟩
structure Sf where
 u:Int
 v:Int
 a:Nat
 ku:Nat→Rat
 b:Nat
 kv:Nat→Rat
 n:Nat
 m:Nat
 f:Nat→Nat→Pl
theorem FB {rl:List (Nat×Nat)} {l i s s' s2:Nat} {x y:Nat→Pl} {t:AV} {z:AV} (hx:∀i,i<l→x i=y i) (ht:bB t (bu (y l) s')) (hk:keys t=[]) (h1:s≤s2) (h2:s'≤s2) (hi:i<l+1):
  fD rl (if i<l then bu (x i) s else nth [t] z (i-l+0)) (bu (y i) s2):=by
 by_cases h:i<l
 ·rw[if_pos h,hx i h];exact .inr ⟨rfl,IM rfl h1⟩
 ·have:i=l:=by omega
  subst this
  rw[if_neg h,Nat.sub_self]
  exact .inr ⟨hk,ht.trans (IM rfl h2)⟩
end Go.Am.B

/- ref02: Valid, Valids, Bits; ref04.Valid; ref10: Short, shortPoles. -/
namespace Go.Am.B
open Go Go.Am.N AV aa aj IntKind
end Go.Am.B

/- ref09: part, function, Values. -/
namespace Go.Am.B
open Go Go.Am.N AV aa aj IntKind
end Go.Am.B

/- ref10: Lift, Homogeneous, Drop, Eval. -/
namespace Go.Am.B
open Go Go.Am.N AV aa aj IntKind
abbrev sH:Nat:=2147483648
abbrev sE:Nat:=4294967298
def tu (h:Pl):V3:=⟨((1:Int):Rat)/h.d*h.n.x,((1:Int):Rat)/h.d*h.n.y,((1:Int):Rat)/h.d*h.n.z⟩
abbrev jc (h:Pl) (s:Nat):ah:=⟨false,true,12,1,fun _=>cL h s⟩
def gq (c:Cu) (x:Nat→Rat) (b j:Nat):Pl:=
 ⟨⟨cD j fun j=>x j*((c.f (b+j)).d*(c.f (b+j)).n.x),cD j fun j=>x j*((c.f (b+j)).d*(c.f (b+j)).n.y),cD j fun j=>x j*((c.f (b+j)).d*(c.f (b+j)).n.z)⟩,cD j fun j=>x j*(c.f (b+j)).d⟩
def tH (c:Cu) (t:Rat):Pl:=gq c (vB c.k (bP c.n c.k t) t c.p.toNat) (bP c.n c.k t-c.p.toNat) (c.p.toNat+1)
def iR (c:Cu) (t:Rat):V3:=if ek c.n c.k t then⟨0,0,0⟩else tu (tH c t)
end Go.Am.B

/- ref12: row, Swap, IsoV, IsoU, Eval. -/
namespace Go.Am.B
open Go Go.Am.N AV aa aj IntKind
structure SfW (s:Sf):Prop where
 ku:Kn s.a s.u.toNat s.ku
 kv:Kn s.b s.v.toNat s.kv
 u0:0≤s.u
 u6:s.u≤6
 v0:0≤s.v
 v6:s.v≤6
 a:s.a<2^30
 b:s.b<2^30
 n:(s.n:Int)=(s.a:Int)-s.u-1
 m:(s.m:Int)=(s.b:Int)-s.v-1
end Go.Am.B

/- spline.Of, Four.Pole, curve.of, Spline.Eval, curve.sound, curve.Eval. -/
namespace Go.Am.B
open Go Go.Am.N AV aa aj IntKind
theorem Vn:aO P EV Bu (au Bu):=aQ abS (by kernel_rfl) (by kernel_rfl) (by kernel_rfl)
theorem ago:aO P nY yq (au yq):=aQ adu (by kernel_rfl) (by kernel_rfl) (by kernel_rfl)
theorem aiu:aO P ot wF (au wF):=aQ aiF (by kernel_rfl) (by kernel_rfl) (by kernel_rfl)
theorem QX:aO P xV qw (au qw):=aQ R7 (by kernel_rfl) (by kernel_rfl) (by kernel_rfl)
theorem ald:aO P vf yx (au yx):=aQ SV (by kernel_rfl) (by kernel_rfl) (by kernel_rfl)
theorem ad5:aO P yh zJ (au zJ):=aQ VU (by kernel_rfl) (by kernel_rfl) (by kernel_rfl)
def cF (p:Pl):Pl:=⟨⟨p.d*p.n.x,p.d*p.n.y,p.d*p.n.z⟩,p.d⟩
def eo (h:Pl):Pl:=⟨⟨h.n.x/h.d,h.n.y/h.d,h.n.z/h.d⟩,h.d⟩
abbrev oy (f:Nat→Pl) (n s:Nat):AV:=.ak 12 n (fun i=>cL (f i) s)
abbrev eB (c:Cu) (s r:Nat):AV:=.agg [.int .i64 c.p,bt c.k c.n s,oy c.f c.m r]
def OV:aR:=nG::fI
noncomputable def BM:aR:=nG::(EV,fT T OV [] 80 Bu)::fI
abbrev y7:List Nat:=[2,3,12,13,14]
abbrev F0 (c:Cu) (r i:Nat):List AV:=[.ptr 0 0 3 0 [],.ptr 1 0 3 0 [],gV c.f c.m r,.int .i64 c.m,.int .i64 i]
abbrev D5 (c:Cu) (x w i:Nat):aC:=[(2,⟨true,true,12,i,fun j=>cL (cF (c.f j)) w⟩),(1,⟨false,true,3,1,fun _=>.agg [.int .i64 c.p,bt c.k c.n x,.own 2 12 0 i]⟩),(0,⟨false,true,3,1,fun _=>.agg [.int .i64 0,.nil,.nil]⟩)]
noncomputable abbrev Ab:Code:=au wF
def O5:aR:=nG::(sn,j4 kR kR Hq p8)::fI
def Ku (f:Nat→Pl) (x:Nat→Rat) (b j:Nat):Pl:=
 ⟨⟨cD j fun j=>x j*(f (b+j)).n.x,cD j fun j=>x j*(f (b+j)).n.y,cD j fun j=>x j*(f (b+j)).n.z⟩,cD j fun j=>x j*(f (b+j)).d⟩
def BB:aR:=nG::(zh,JM)::fI
abbrev wA:List Nat:=[4,5,2,6,7,36,37,38]
abbrev CF (p i:Nat) (x:Nat→Rat) (j:Nat):List AV:=[.ptr 1 0 12 0 [],.int .i64 0,.ptr 0 0 3 0 [],.ptr 2 0 12 0 [],.int .i64 ((i:Int)-p),.ak 3 (p+1) (fun j=>.rat (x j) sV),.int .i64 ((p+1:Nat):Int),.int .i64 j]
abbrev pX (c:Cu) (r:Nat):ah:=⟨false,true,3,1,fun _=>eB c sK r⟩
noncomputable abbrev uX:Code:=au qw
def su:AV→Pl
 |.agg [x,y,z,w]=>⟨⟨aS x,aS y,aS z⟩,aS w⟩
 |_=>⟨⟨0,0,0⟩,0⟩
def lI (f:Nat→AV) (n s:Nat):Prop:=∀i,i<n→bB (f i) (cL (su (f i)) s)
theorem abK {v:AV} {n s:Nat} {f:Nat→AV} (h:u7 v=some (n,f)) (ha:lI f n s):bB v (oy (fun i=>su (f i)) n s):=by
 unfold u7 at h
 split at h
 ·simp only[Option.some.injEq,Prod.mk.injEq]at h
  obtain⟨rfl,rfl⟩:=h
  exact mN ha
 ·simp only[Option.some.injEq,Prod.mk.injEq]at h
  obtain⟨rfl,rfl⟩:=h
  exact kT (by omega)
 ·simp at h
theorem TF {h:Pl} {s:Nat}:bF T O5 [] 80 yq (au yq) ⟨aN 0 [cL h s],[],0⟩=
  let c8:Int:=(↑(3:Nat):Int);let c7:Int:=(↑(4:Nat):Int);let c5:Int:=(2:Int)^63;let c4:Prop:=s<2^42;let c2:Prop:=0<1;let c1:Int:=(0:Int)+(1:Int);let c6:Int:=c1+(1:Int);let c3:Prop:=(0:Int)≤(3:Int)∧(3:Int)<c7;some (ag [c3,c2,c4,(1:Nat)<2^42,c2] (ag [(0:Int)≤(0:Int)∧(0:Int)<c7,c2,c3,c2,c4,c4,(0:Int)≤(0:Int)∧(0:Int)<c8,c2] (ag [-c5≤c1∧c1<c5] (ag [(0:Int)≤c1∧c1<c7,c2,c3,c2,c4,c4,(0:Int)≤c1∧c1<c8,c2] (ag [-c5≤c6∧c6<c5] (ag [(0:Int)≤c6∧c6<c7,c2,c3,c2,c4,c4,(0:Int)≤c6∧c6<c8,c2] (ag [-c5≤c6+(1:Int)∧c6+(1:Int)<c5] (ag [c2,c2] (ag [c2] (leaf ret [agg [agg [rat (h.n.x/h.d) (s+s),rat (h.n.y/h.d) (s+s),rat (h.n.z/h.d) (s+s)],rat (h.d+0) (s+1+1)]])))))))))):=by kernel_rfl
theorem Z4 {c:Cu} {x r:Nat}:aH T BM [] 60 y7 (before Ab [1,1,0,1]) ⟨aN 0 [cI c x r],[],0⟩=
  let c2:Prop:=0<1;let c1:AV:=agg [int i64 (0:Int),nil,nil];some (ag [c2,c2,c2] (ag [c2] (leaf normal ([ptr 4096 0 3 0 [],ptr 28672 0 3 0 [],ak 12 c.m fun i↦agg [agg [rat (c.f i).n.x r,rat (c.f i).n.y r,rat (c.f i).n.z r],rat (c.f i).d r],int i64 (↑c.m:Int),int i64 (0:Int)],[((28672:Nat),ah.mk false true 3 1 fun j↦if(j==0)=true then bn (agg ((c1.kids.set 0 (bn (int i64 c.p))).set 1 (bn (bt c.k c.n x))))else c1),((4096:Nat),ah.mk false true 3 1 fun x↦c1)])))):=by kernel_rfl
theorem ajU {c:Cu} {x r w i:Nat}:aH T BM [15] 60 y7 [part Ab [1,1,0,1,0,0]] ⟨aA y7 (F0 c r i),D5 c x w i,3⟩=
  let c17:Int:=(↑c.m:Int);let c16:Int:=(↑(3:Nat):Int);let c15:AV:=own 2 12 0 i;let c14:AV:=ptr 1 0 3 0 [];let c13:AV:=ptr 0 0 3 0 [];let c12:Int:=(↑(4:Nat):Int);let c11:Int:=(↑i:Int);let c10:AV:=rat 0 1;let c7:Nat×ah:=((0:Nat),ah.mk false true 3 1 fun x↦agg [int i64 (0:Int),nil,nil]);let c5:AV:=ak 12 c.m fun i↦agg [agg [rat (c.f i).n.x r,rat (c.f i).n.y r,rat (c.f i).n.z r],rat (c.f i).d r];let c4:Int:=(2:Int)^63;let c3:Prop:=r<2^42;let c2:Int:=(0:Int)+(1:Int);let c1:Prop:=0<1;let c18:Int:=c11+(1:Int);let c9:AV:=agg [int i64 c.p,bt c.k c.n x,c15];let c8:Int:=c2+(1:Int);let c6:Pl:=c.f c11.toNat;some (fork (decide (c11<c17)) (ag [(0:Int)≤c11∧c11.toNat<c.m,c1] (ag [c1,c1,c1,(0:Int)≤(0:Int)∧(0:Int)<c16,c1,c1,c1,c3,c3,(0:Int)≤(0:Int)∧(0:Int)<c12,c1,-c4≤c2∧c2<c4,(0:Int)≤c2∧c2<c16,c1,c1,c1,c3,c3,(0:Int)≤c2∧c2<c12,c1,-c4≤c8∧c8<c4,(0:Int)≤c8∧c8<c16,c1,c1,c1,c3,c3,(0:Int)≤c8∧c8<c12,c1,-c4≤c8+(1:Int)∧c8+(1:Int)<c4,c1,c3,(1:Nat)<2^42,(0:Int)≤(3:Int)∧(3:Int)<c12,c1,c1,c1,c1,(1:Nat)*12≤2^24,(i+1)*((224:Nat)+1)*2≤2^47,c1] (ag [-c4≤c18∧c18<c4] (leaf normal ([c13,c14,c5,int i64 c17,int i64 c18],[((40963:Nat),ah.mk true true 12 (i+1) fun i_1↦if i_1<i then cL (cF (c.f i_1)) w else nth [agg [rat (c6.d*c6.n.x) (r+r),rat (c6.d*c6.n.y) (r+r),rat (c6.d*c6.n.z) (r+r),rat (c6.d+0) (r+1+1)]] (agg [c10,c10,c10,c10]) (i_1-i+0)),((1:Nat),ah.mk false true 3 1 fun j↦if(j==0)=true then agg (c9.kids.set 2 (bn (own (nat_lit 40962+1) 12 0 (i+1))))else c9),c7]))))) (leaf (exit 0) ([c13,c14,c5,int i64 c17,int i64 c11],[((2:Nat),ah.mk true true 12 i fun j↦agg [rat ((c.f j).d*(c.f j).n.x) w,rat ((c.f j).d*(c.f j).n.y) w,rat ((c.f j).d*(c.f j).n.z) w,rat (c.f j).d w]),((1:Nat),ah.mk false true 3 1 fun x_1↦agg [int i64 c.p,ak 3 c.n fun i↦rat (c.k i) x,c15]),c7]))):=by kernel_rfl
theorem aev {c:Cu} {x r w i:Nat}:cm T BM [] 60 wF [part Ab [1,1,1]] ⟨aA y7 (F0 c r i),D5 c x w i,3⟩=
  let c1:Prop:=0<1;some (ag [c1,c1] (ag [c1] (leaf ret [agg [int i64 c.p,ak 3 c.n fun i↦rat (c.k i) x,ak 12 i fun i↦agg [rat ((c.f (i+0)).d*(c.f (i+0)).n.x) w,rat ((c.f (i+0)).d*(c.f (i+0)).n.y) w,rat ((c.f (i+0)).d*(c.f (i+0)).n.z) w,rat (c.f (i+0)).d w]]]))):=by kernel_rfl
theorem T9 {c:Cu} {r:Nat} {t:Rat}:aH T BB [25,34] 60 wA (before uX [1,1,1,1,0,1]) ⟨aN 0 [eB c sK r,.rat t sK],[],0⟩=
  let c16 : Nat := bP c.n (fun i ↦ aS (rat (c.k i) sK)) t; let c15 : Prop := ek c.n (fun i ↦ aS (rat (c.k i) sK)) t; let c14 : AV := ptr 8192 0 12 0 []; let c13 : AV := ptr 16384 0 12 0 []; let c12 : AV := ptr 0 0 (bn (eB c sK r)).size 0 []; let c11 : AV := rat 0 1; let c10 : Prop := 0 < 1; let c8 : Bool := eE c.n (fun i ↦ aS (rat (c.k i) sK)) t != (0 : Int); let c6 : Nat × ah := ((0 : Nat), ah.mk false true (bn (eB c sK r)).size 1 fun x ↦ agg [int i64 c.p, ak 3 c.n fun i ↦ rat (c.k i) 4096, ak 12 c.m fun i ↦ agg [rat (c.f i).n.x r, rat (c.f i).n.y r, rat (c.f i).n.z r, rat (c.f i).d r]]); let c7 : Nat := if c15 then 0 else c.p.toNat + 1; let c5 : Int := if c15 then (0 : Int) else (↑c16 : Int) - (↑c.p.toNat : Int); let c4 : AV := agg [c11, c11, c11, c11]; let c9 : ah := ah.mk false true 12 1 fun x ↦ c4; let c3 : Int := c5 + (↑c7 : Int); let c2 : aa (List AV × aC) := leaf normal ([c14, int i64 (0 : Int), c12, c13, int i64 c5, ak 3 c7 fun j ↦ rat (vB (fun i ↦ aS (rat (c.k i) sK)) c16 t c.p.toNat j) 268435456, int i64 (↑c7 : Int), int i64 (0 : Int)], [((16384 : Nat), c9), c6, ((8192 : Nat), c9)]); let c1 : aa (List AV × aC) := ag [c10] (leaf ret ([c14, int i64 (7 : Int), c12, c13, int i64 c5, tuple [], tuple [], tuple []], [((16384 : Nat), c9), c6, ((8192 : Nat), ah.mk false true 12 1 fun j ↦ if (j == 0) = true then bn (agg c4.kids) else c4)])); some (ag [c10, c10, c10, bG (fun i ↦ rat (c.k i) sK) c.n sK, sK ≤ sK, Kn c.n c.p.toNat fun i ↦ aS (rat (c.k i) sK), (0 : Int) ≤ c.p, c.p ≤ (6 : Int), c.n < 2 ^ 40] (fork c8 (ag [c8 = true] (fork true c1 c2)) (ag [c8 = false, -(2 : Int) ^ 63 ≤ c3 ∧ c3 < (2 : Int) ^ 63, c10] (fork (bif false then true else decide (c3 > (↑c.m : Int))) c1 c2)))) := by kernel_rfl
theorem Xi {c:Cu} {h:Pl} {p i j s r:Nat} {x:Nat→Rat}:aH T BB [39] 60 wA [part uX [1,1,1,1,0,1,0,0]] ⟨aA wA (CF p i x j),[(2,jc h s),(1,jc ⟨⟨0,0,0⟩,0⟩ 1),(0,pX c r)],3⟩=
  let c29:Int:=(↑i:Int)-(↑p:Int);let c26:AV:=ptr 0 0 3 0 [];let c24:AV:=ptr 2 0 12 0 [];let c23:AV:=ptr 1 0 12 0 [];let c21:AV:=rat 0 1;let c20:Int:=(↑(p+1):Int);let c19:AV:=ak 3 (p+1) fun j↦rat (x j) 268435456;let c16:Int:=(↑j:Int);let c15:Bool:=0==0;let c10:Int:=(↑(4:Nat):Int);let c9:Int:=(0:Int)+(1:Int);let c8:Nat:=2^42;let c7:Prop:=0<1;let c6:Int:=(2:Int)^63;let c33:Prop:=sV+r<c8;let c32:Rat:=x c16.toNat;let c31:Int:=c16+(1:Int);let c28:Prop:=(0:Int)≤c9∧c9<c10;let c18:Prop:=(0:Int)≤(0:Int)∧(0:Int)<c10;let c4:List (Nat×ah):=[((0:Nat),ah.mk false true 3 1 fun x↦agg [int i64 c.p,ak 3 c.n fun i↦rat (c.k i) 4096,ak 12 c.m fun i↦agg [rat (c.f i).n.x r,rat (c.f i).n.y r,rat (c.f i).n.z r,rat (c.f i).d r]]),((1:Nat),ah.mk false true 12 1 fun x↦agg [c21,c21,c21,c21])];let c3:Int:=c9+(1:Int);let c2:Int:=c29+c16;let c30:Pl:=c.f c2.toNat;let c27:Prop:=(0:Int)≤c3∧c3<c10;let c25:Prop:=-c6≤c2∧c2<c6;let c17:Prop:=(0:Int)≤c2∧c2.toNat<c.m;let c12:Int:=c3+(1:Int);let c22:Prop:=(0:Int)≤c12∧c12<c10;let c11:AV:=agg ((cL h s).kids.set (Int.toNat (0:Int)) (bn (jq (h.n.x,s) (c32*c30.n.x,sV+r))));let c5:AV:=if c15=true then c11 else cL h s;let c13:AV:=agg (c5.kids.set c9.toNat (bn (jq (h.n.y,s) (c32*c30.n.y,sV+r))));let c1:AV:=if c15=true then c13 else c5;let c14:AV:=agg (c1.kids.set c3.toNat (bn (jq (h.n.z,s) (c32*c30.n.z,sV+r))));some (fork (decide (c16<c20)) (ag [(0:Int)≤c16∧c16.toNat<p+1,c7] (ag [c18,c7,c7,c7,c25,c17,c18,sV<c8,r<c8,s<c8,c33,c18,c7] (ag [-c6≤c9∧c9<c6] (ag [c28,c7,c7,c7,c25,c17,c28,sV<c8,r<c8,s<c8,c33,c28,c7] (ag [-c6≤c3∧c3<c6] (ag [c27,c7,c7,c7,c25,c17,c27,sV<c8,r<c8,s<c8,c33,c27,c7] (ag [-c6≤c12∧c12<c6] (ag [c22,c7,c7,c7,c25,c17,c22,sV<c8,r<c8,s<c8,c33,c22,c7] (ag [-c6≤c12+(1:Int)∧c12+(1:Int)<c6] (ag [-c6≤c31∧c31<c6] (leaf normal ([c23,int i64 (0:Int),c26,c24,int i64 c29,c19,int i64 c20,int i64 c31],((2:Nat),ah.mk false true 12 1 fun j↦if(j==0)=true then agg ((if c15=true then c14 else c1).kids.set c12.toNat (bn (jq (h.d,s) (c32*c30.d,sV+r))))else if(j==0)=true then c14 else if(j==0)=true then c13 else if(j==0)=true then c11 else cL h s)::c4)))))))))))) (leaf (exit 0) ([c23,int i64 (0:Int),c26,c24,int i64 c29,c19,int i64 c20,int i64 c16],((2:Nat),ah.mk false true 12 1 fun x↦agg [rat h.n.x s,rat h.n.y s,rat h.n.z s,rat h.d s])::c4))):=by kernel_rfl
theorem abF {c:Cu} {h:Pl} {p i j s r:Nat} {x:Nat→Rat}:cm T BB [] 60 qw [part uX [1,1,1,1,1]] ⟨aA wA (CF p i x j),[(2,jc h s),(1,jc ⟨⟨0,0,0⟩,0⟩ 1),(0,pX c r)],3⟩=
  let c1:Prop:=0<1;some (ag [c1,c1] (ag [c1] (leaf ret [agg [rat h.n.x s,rat h.n.y s,rat h.n.z s,rat h.d s],int i64 (0:Int)]))):=by kernel_rfl
theorem Sd:aY P OV:=dr ga
theorem Z1:aY P BM:=dr (aG (gd hT Sd hm Vn _ _) ga)
theorem ZF:aY P O5:=dr (aG (kr fun _ _ K hn=>Gv hn.1 hn.2 K) ga)
theorem O7:aY P BB:=dr (aG XO ga)
theorem Av {rl:List (Nat×Nat)} {l i:Nat} {f g:Nat→AV} {v z:AV} (hf:∀i,i<l→f i=g i∧keys (f i)=[]) (hk:keys v=[]) (hv:bB v (g l)) (hi:i<l+1):fD rl (if i<l then f i else nth [v] z (i-l+0)) (g i):=by
 by_cases h:i<l
 ·rw[if_pos h];exact aE (hf i h).2 (hf i h).1
 ·have:i=l:=by omega
  subst this
  rw[if_neg h,Nat.sub_self]
  exact .inr ⟨hk,hv⟩
theorem oP {rl:List (Nat×Nat)} {p:Int} {v:AV} {a b i:Nat} (hv:keys v=[]) (ht:v.isTuple=false) (h:aT rl b=some a):fD rl (.agg [.int .i64 p,v,.own a 12 0 i]) (.agg [.int .i64 p,v,.own b 12 0 i]):=
 jd ⟨⟨rfl,aI rfl⟩,⟨ht,aI hv⟩,⟨rfl,cw h rfl rfl⟩,trivial⟩
theorem AJ {h h':Pl} {s s':Nat} (e:h=h') (hs:s≤s'):bB (cL h s) (cL h' s'):=e▸dn ⟨bS rfl hs,bS rfl hs,bS rfl hs,bS rfl hs,trivial⟩
theorem EH {h:Pl} {s w:Nat} (hs:s<2^40) (h1:s+s≤w) (h2:s+2≤w) (K:Nat):aB P nY K [cL h s] [] (aK (bu (eo h) w) []):=by
 refine bJ (r:=aK (bu (eo h) w) []) hT ZF hm ago rfl (of_decide_eq_true (by kernel_rfl)) rfl 80 TF (fun _=>?_) K []
 simp only[aa.all,ax]
 (repeat' with_reducible refine And.intro ?_ ?_)
 all_goals first|omega|skip
 exact dn ⟨dn ⟨bS rfl h1,bS rfl h1,bS rfl h1,trivial⟩,bS (Rat.add_zero _) (by omega),trivial⟩
theorem J0 {c:Cu} {x r w:Nat} (h1:r+r≤w) (h2:r+2≤w) (hw:w<2^40) (hn:c.n<2^40) (hm2:c.m<2^30) (K:Nat):aB P ot K [cI c x r] [] (aK (.agg [.int .i64 c.p,bt c.k c.n x,oy (fun i=>cF (c.f i)) c.m w]) []):=by
 refine gO (r:=aK (.agg [.int .i64 c.p,bt c.k c.n x,oy (fun i=>cF (c.f i)) c.m w]) []) hT Z1 hm aiu rfl (of_decide_eq_true (by kernel_rfl)) rfl [1,1,0,1] (i:=0) (y:=part Ab [1,1,0,1,0,0]) (z:=part Ab [1,1,1]) (by kernel_rfl) (by kernel_rfl) (by kernel_rfl) (f1:=[]) (f2:=[15]) (f3:=[]) 60 y7 3
  (fun i:Nat=>F0 c r i) (fun i=>D5 c x w i) (fun i=>i≤c.m) (fun i=>i=c.m) (fun i=>c.m-i) (fun _=>⟨⟨_,Z4,?_⟩,fun i hi=>⟨_,ajU,?_⟩,fun i hi=>⟨_,aev,?_⟩⟩) K []
 ·simp only[aa.all,ax]
  exact⟨by omega,by omega,0,Nat.zero_le _,[(0,4096),(1,28672)],rfl,rfl,rfl,mw rfl (by omega) (by omega) (aJ rfl rfl (jd ⟨⟨rfl,aI rfl⟩,⟨rfl,aI rfl⟩,⟨rfl,mo (by omega)⟩,trivial⟩) (aJ rfl rfl (aE rfl rfl) trivial))⟩
 ·set_option maxRecDepth 10000 in simp only[aa.all,ax,decide_eq_true_eq,decide_eq_false_iff_not,Int.toNat_natCast,Nat.add_zero]
  refine⟨fun h=>⟨by omega,by omega,by omega,i+1,by omega,by dsimp only;omega,[(0,0),(1,1),(2,40963)],rfl,rfl,rfl,bh rfl rfl rfl (fun j hj=>Av (g:=fun j=>cL (cF (c.f j)) w) (fun _ _=>⟨rfl,rfl⟩) rfl (dn ⟨bS rfl h1,bS rfl h1,bS rfl h1,bS (Rat.add_zero _) (by omega),trivial⟩) hj) (aJ rfl rfl (oP rfl rfl rfl) (aJ rfl rfl (aE rfl rfl) trivial))⟩,
   fun h=>⟨rfl,i,by omega,[(0,0),(1,1),(2,2)],rfl,rfl,rfl,bh rfl rfl rfl (fun _ _=>aE rfl rfl) (aJ rfl rfl (oP rfl rfl rfl) (aJ rfl rfl (aE rfl rfl) trivial))⟩⟩
 ·subst hi
  simp only[aa.all,ax]
  exact⟨by omega,by omega,.refl _⟩
theorem RE {c:Cu} {r:Nat}:kA T qw .ret ⟨aA [4,5,2,6] [.ptr 8192 0 12 0 [],.int .i64 7,.ptr 0 0 3 0 [],.ptr 16384 0 12 0 []],[(16384,⟨false,true,12,1,fun _=>.agg [.rat 0 1,.rat 0 1,.rat 0 1,.rat 0 1]⟩),(0,pX c r),(8192,⟨false,true,12,1,fun j=>if(j==0)=true then bn (.agg (AV.kids (.agg [.rat 0 1,.rat 0 1,.rat 0 1,.rat 0 1])))else .agg [.rat 0 1,.rat 0 1,.rat 0 1,.rat 0 1]⟩)],16385⟩=
  let c1:AV:=rat 0 1;some (ag [(0:Nat)<1] (leaf ret [agg [c1,c1,c1,c1],int i64 (7:Int)])):=by kernel_rfl
def nM (c:Cu) (t:Rat):Pl:=if ek c.n c.k t then⟨⟨0,0,0⟩,0⟩else Ku c.f (vB c.k (bP c.n c.k t) t c.p.toNat) (bP c.n c.k t-c.p.toNat) (c.p.toNat+1)
theorem YD {c:Cu} {t:Rat} {r s:Nat} (hr:1+7*(sV+r+1)≤s) (hs:s<2^40) (hk:Kn c.n c.p.toNat c.k) (h0:0≤c.p) (h6:c.p≤6) (hn:c.n<2^40) (hm2:(c.m:Int)=(c.n:Int)-c.p-1) (K:Nat):aB P xV K [eB c sK r,.rat t sK] [] (aK (.tuple [cL (nM c t) s,.int .i64 (eE c.n c.k t)]) []):=by
 refine iq (r:=aK (.tuple [cL (nM c t) s,.int .i64 (eE c.n c.k t)]) []) hT QX rfl (of_decide_eq_true (by kernel_rfl)) rfl (fun _ cx h00=>?_) K []
 have hkp:=qv h00
 obtain⟨q,hq⟩:∃q,q=c.p.toNat:=⟨_,rfl⟩
 have hq2:c.p=(q:Int):=by omega
 obtain⟨i,hi⟩:∃i,i=bP c.n c.k t:=⟨_,rfl⟩
 obtain⟨x,hx⟩:∃x,x=vB c.k i t q:=⟨_,rfl⟩
 have h1:sK=4096:=rfl
 have h2:sV=268435456:=rfl
 have z0:1+0*(sV+r+1)=1:=by omega
 have zle:∀j,j≤7→1+j*(sV+r+1)≤s:=fun j hj=>by
  have:=Nat.mul_le_mul_right (sV+r+1) hj
  omega
 refine aq.nN hT O7 hm (x:=uX) [1,1,1,1,0,1] (i:=0) (y:=part uX [1,1,1,1,0,1,0,0]) (z:=part uX [1,1,1,1,1]) (by kernel_rfl) (by kernel_rfl) (by kernel_rfl) QX.dst hkp (f1:=[25,34]) (f2:=[39]) 60 wA 3 (fun j:Nat=>CF q i x j) (fun j=>[(2,jc (Ku c.f x (i-q) j) (1+j*(sV+r+1))),(1,jc ⟨⟨0,0,0⟩,0⟩ 1),(0,pX c r)])
  (fun j=>j≤q+1∧¬ek c.n c.k t) (fun j=>j=q+1∧¬ek c.n c.k t) (fun j=>q+1-j) (Fg T qw [4,5,2,6] (.tuple [cL (nM c t) s,.int .i64 (eE c.n c.k t)])) ⟨_,T9,?_⟩ (fun j ⟨hj,hin⟩=>⟨_,Xi,?_⟩) (fun j ⟨hj,hin⟩=>?_) (fun v s' hv hs'=>hv.fin (L1:=[7,36,37,38]) hkp hs')
 ·simp only[aa.all,ax,vR,bne_iff_ne,ne_eq,bne_eq_false_iff_eq]
  have hko:ek c.n (fun i=>c.k i) t=ek c.n c.k t:=rfl
  have hkE:eE c.n (fun i=>c.k i) t=eE c.n c.k t:=rfl
  have hkI:bP c.n (fun i=>c.k i) t=bP c.n c.k t:=rfl
  simp only[hko,hkE,hkI]
  refine⟨⟨by omega,by omega,by omega,cM (Nat.le_refl _),Nat.le_refl _,hk,h0,h6,hn⟩,fun hout=>⟨hout,fun _=>⟨by omega,?_⟩,fun h=>absurd h (by decide)⟩,fun he=>?_⟩
  ·have ho:=Kc hout
   refine⟨[_,_,_,_],_,16385,_,rfl,rfl,rfl,RE,rfl,⟨⟨by omega,fun i _=>rfl⟩,⟨by omega,fun i _=>rfl⟩,⟨by omega,fun i _=>xI rfl rfl⟩,trivial⟩,Nat.zero_lt_one,?_⟩
   exact⟨AJ (h:=⟨⟨0,0,0⟩,0⟩) (by unfold nM;rw[if_pos ho]) (by omega),bw (by unfold eE;rw[if_pos ho]),trivial⟩
  ·have hin:=Js he
   have hiv:=hk.Bm hin
   simp only[if_neg hin]
   refine⟨⟨he,by omega,by omega⟩,fun h=>?_,fun _=>⟨0,⟨Nat.zero_le _,hin⟩,[(0,0),(1,8192),(2,16384)],rfl,?_,rfl,aJ rfl rfl (aE rfl (by rw[z0];rfl)) (aJ rfl rfl (aE rfl rfl) (aJ rfl rfl (aE rfl rfl) trivial))⟩⟩
   ·exfalso
    rw[cond_false,decide_eq_true_eq]at h
    omega
   ·show _=(CF q i x 0).map _
    rw[hx,hq,hi];rfl
 ·have hiv:=hk.Bm hin
  rw[←hi,←hq]at hiv
  simp only[aa.all,ax,decide_eq_true_eq,decide_eq_false_iff_not,show((i:Int)-q+j).toNat=i-q+j by omega,Int.toNat_natCast]
  refine⟨fun h=>?_,fun h=>⟨rfl,j,⟨by omega,hin⟩,[(0,0),(1,1),(2,2)],rfl,rfl,rfl,aJ rfl rfl (aE rfl rfl) (aJ rfl rfl (aE rfl rfl) (aJ rfl rfl (aE rfl rfl) trivial))⟩⟩
  have hz:=zle j (by omega)
  have hzS:1+(j+1)*(sV+r+1)=1+j*(sV+r+1)+(sV+r+1):=by rw[Nat.add_mul,Nat.one_mul];omega
  have hz2:=zle (j+1) (by omega)
  generalize 1+j*(sV+r+1)=zj at*
  (repeat' with_reducible refine And.intro ?_ ?_)
  all_goals first|omega|skip
  exact⟨j+1,⟨by omega,hin⟩,by dsimp only;omega,[(0,0),(1,1),(2,2)],rfl,rfl,rfl,aJ rfl rfl (.inr ⟨rfl,dn ⟨bS rfl (by omega),bS rfl (by omega),bS rfl (by omega),bS rfl (by omega),trivial⟩⟩) (aJ rfl rfl (aE rfl rfl) (aJ rfl rfl (aE rfl rfl) trivial))⟩
 ·subst hj
  refine aq.mD ((aD.fin hT O7 hm 60 abF (by kernel_rfl) ?_).mono fun _ _ h=>.inl h)
  simp only[aa.all,ax]
  have hz:=zle (q+1) (by omega)
  refine⟨by omega,by omega,?_,bw (by unfold eE;rw[if_neg hin]),trivial⟩
  exact AJ (by unfold nM;rw[if_neg hin,←hi,←hq,←hx]) hz
def qZ (s r:Nat):Kind Cu:=⟨fun v=>match v with
 |.agg [p,k,f]=>match kI.read p,(kL s).read k,u7 f with
  |some (p,q1),some ((n,k),q2),some (m,f)=>some (⟨p,n,k,m,fun i=>su (f i)⟩,q1++(q2++[lI f m r]))
  |_,_,_=>none
 |_=>none,fun a=>eB a s r,fun {v a q} h hq=>by
  split at h
  ·split at h
   ·rename_i h1 h2 h3
    simp only[Option.some.injEq,Prod.mk.injEq]at h
    obtain⟨rfl,rfl⟩:=h
    obtain⟨q1,hq⟩:=dG.1 hq
    obtain⟨q2,q3⟩:=dG.1 hq
    exact dn ⟨kI.ok h1 q1,(kL s).ok h2 q2,abK h3 q3,trivial⟩
   ·simp at h
  ·simp at h⟩
def Qg:Spec:=cQ (kC (jF sJ sJ) kN) (fun a=>eB ⟨a.1.p,a.1.n,a.1.k,a.1.m,fun i=>cF (a.1.f i)⟩ sJ (sJ+sJ)) fun a=>[a.1.n<2^40,a.1.m<2^30]
def Pa:Spec:=cQ (kC (qZ sK (sJ+sJ)) (kC (kO sK) kN)) (fun a=>.tuple [cL (nM a.1 a.2.1) sH,.int .i64 (eE a.1.n a.1.k a.2.1)]) fun a=>[Kn a.1.n a.1.p.toNat a.1.k,0≤a.1.p,a.1.p≤6,a.1.n<2^40,(a.1.m:Int)=(a.1.n:Int)-a.1.p-1]
def Oz:Spec:=cQ (kC (Fb sH) kN) (fun a=>bu (eo a.1) sE) fun _=>[]
def dy (c:Cu):Prop:=Kn c.n c.p.toNat c.k∧1≤c.p∧c.p≤6∧c.n≤c.p.toNat+41∧(c.m:Int)=(c.n:Int)-c.p-1
noncomputable def KX:aR:=nG::(tC,G8)::(pJ,uS)::[]
def Bv:Spec:=cQ (kC (jF sJ sJ) kN) (fun _=>.bool true) fun a=>[dy a.1]
noncomputable def Km:aR:=nG::(vf,Bv)::(ot,Qg)::(xV,Pa)::(nY,Oz)::[]
theorem adK {c:Cu}:bF T KX [100009] 60 yx (au yx) ⟨aN 0 [cI c sJ sJ],[],0⟩=
  let c2:Prop:=c.n<2^40;let c1:Prop:=0<1;some (ag [c1,c1,bG (fun i↦rat (c.k i) sJ) c.n sJ,c2,(gp c.n (fun i↦aS (rat (c.k i) sJ)) c.p==(0:Int))=true,c1,c1,c1,bG (fun i↦rat (c.k i) sJ) c.n sK,c2,-(2:Int)^40<c.p,c.p<(2:Int)^40] (leaf ret [AV.bool (bif true then(↑c.m:Int)==(↑c.n:Int)-c.p-(1:Int)else false)])):=by kernel_rfl
theorem adl {c:Cu} {t:Rat}:bF T Km [20] 60 zJ (au zJ) ⟨aN 0 [cI c sJ sJ,.rat t sK],[],0⟩=
  let c7 : Prop := c.n < 2 ^ 40; let c6 : Prop := eI (fun i ↦ bu (c.f i) sJ) c.m sJ; let c5 : Prop := bG (fun i ↦ rat (c.k i) sJ) c.n sJ; let c4 : AV := rat 0 1; let c3 : Int := eE c.n (fun i ↦ aS (rat (aS (rat (c.k i) sJ)) sJ)) t; let c2 : Prop := 0 < 1; let c1 : Pl := nM (Cu.mk c.p c.n (fun i ↦ aS (rat (aS (rat (c.k i) sJ)) sJ)) c.m fun i ↦ su (cL (cF (dL (bu (c.f i) sJ))) (sJ + sJ))) t; some (ag [c2, c5, c6, dy (Cu.mk c.p c.n (fun i ↦ aS (rat (c.k i) sJ)) c.m fun i ↦ dL (bu (c.f i) sJ))] (ag [c2, c5, c6, c7, c.m < 2 ^ 30, c2, bG (fun i ↦ rat (aS (rat (c.k i) sJ)) sJ) c.n sK, lI (fun i ↦ cL (cF (dL (bu (c.f i) sJ))) (sJ + sJ)) c.m (sJ + sJ), sK ≤ sK, Kn c.n c.p.toNat fun i ↦ aS (rat (aS (rat (c.k i) sJ)) sJ), (0 : Int) ≤ c.p, c.p ≤ (6 : Int), c7, (↑c.m : Int) = (↑c.n : Int) - c.p - (1 : Int), c2] (fork (c3 != (0 : Int)) (ag [c2] (ag [c2] (leaf ret [agg [c4, c4, c4], int i64 c3]))) (ag [c2, sH ≤ sH, sH ≤ sH, sH ≤ sH, sH ≤ sH, c2] (ag [c2] (leaf ret [agg [rat (c1.n.x / c1.d) 4294967298, rat (c1.n.y / c1.d) 4294967298, rat (c1.n.z / c1.d) 4294967298], int i64 (0 : Int)])))))) := by kernel_rfl
theorem Vg:∀K args pre r,Qg K args pre=some r→aB P ot K args pre r:=cU fun⟨c,_⟩ K hn=>J0 (Nat.le_refl _) (by decide) (by decide) hn.1 hn.2 K
theorem abE:∀K args pre r,Pa K args pre=some r→aB P xV K args pre r:=cU fun⟨c,t,_⟩ K hn=>YD (by decide) (by decide) hn.1 hn.2.1 hn.2.2.1 hn.2.2.2.1 hn.2.2.2.2 K
theorem aiK:∀K args pre r,Oz K args pre=some r→aB P nY K args pre r:=cU fun⟨h,_⟩ K _=>EH (by decide) (by decide) (by decide) K
theorem X3:aY P KX:=dr (aG Pm (aG xw bk))
theorem Fa:∀K args pre r,Bv K args pre=some r→aB P vf K args pre r:=cU fun⟨c,_⟩ K hn=>by
 obtain⟨h1,h2,h3,h4,h5⟩:dy c:=hn
 refine bJ (r:=aK (.bool true) []) hT X3 hm ald rfl (of_decide_eq_true (by kernel_rfl)) rfl 60 adK (fun _=>?_) K []
 have hc0:gp c.n c.k c.p=0:=by have:=h1.Px (by omega) h4;rwa [Int.toNat_of_nonneg (by omega)]at this
 simp only[aa.all,ax]
 exact⟨⟨by omega,by omega,cM (Nat.le_refl _),by omega,beq_iff_eq.2 hc0,by omega,by omega,by omega,cM (by decide),by omega,by omega,by omega⟩,fV (beq_iff_eq.2 h5)⟩
theorem acn:aY P Km:=dr (aG Fa (aG Vg (aG abE (aG aiK bk))))
theorem div_one {a b:Rat}:a/b=((1:Int):Rat)/b*a:=by
 rw[Rat.div_def,Rat.div_def,show((1:Int):Rat)=1 from rfl,Rat.one_mul,Rat.mul_comm]
theorem VS {h:Pl}:(eo h).n=tu h:=by
 show V3.mk (h.n.x/h.d) (h.n.y/h.d) (h.n.z/h.d)=V3.mk _ _ _
 rw[div_one (a:=h.n.x),div_one (a:=h.n.y),div_one (a:=h.n.z)]
def Gt:Spec:=cQ (kC (jF sJ sJ) (kC (kO sK) kN)) (fun a=>.tuple [vA (iR a.1 a.2.1) sE,.int .i64 (eE a.1.n a.1.k a.2.1)]) fun a=>[dy a.1]
theorem LO:∀K args pre r,Gt K args pre=some r→aB P yh K args pre r:=cU fun⟨c,t,_⟩ K hn=>by
 have hc:dy c:=hn
 obtain⟨h1,h2,h3,h4,h5⟩:=id hc
 refine bJ (r:=aK (.tuple [vA (iR c t) sE,.int .i64 (eE c.n c.k t)]) []) hT acn hm ad5 rfl (of_decide_eq_true (by kernel_rfl)) rfl 60 adl (fun _=>?_) K []
 have e1:eE c.n (fun i=>aS (rat (aS (rat (c.k i) sJ)) sJ)) t=eE c.n c.k t:=rfl
 simp only[aa.all,ax,e1,bne_iff_ne,ne_eq,bne_eq_false_iff_eq]
 refine⟨⟨by omega,cM (Nat.le_refl _),jO (Nat.le_refl _),hc⟩,⟨by omega,cM (Nat.le_refl _),jO (Nat.le_refl _),by omega,by omega,by omega,cM (by decide),fun _ _=>.refl _,Nat.le_refl _,h1,by omega,h3,by omega,h5,by omega⟩,fun hout=>⟨by omega,by omega,?_⟩,fun hin=>⟨⟨by omega,Nat.le_refl _,Nat.le_refl _,Nat.le_refl _,Nat.le_refl _,by omega⟩,by omega,?_⟩⟩
 ·refine⟨lT (u:=⟨0,0,0⟩) (by unfold iR;rw[if_pos (Kc hout)]) (by decide),.refl _,trivial⟩
 ·have ho:=Js hin
  refine⟨lT (u:=(eo (nM ⟨c.p,c.n,c.k,c.m,fun i=>cF (c.f i)⟩ t)).n) ?_ (by decide),bw hin.symm,trivial⟩
  rw[VS]
  unfold iR nM
  rw[if_neg ho,if_neg ho];rfl
end Go.Am.B

/- ref09.Sum; contracts of sums. -/
namespace Go.Am.B
open Go Go.Am.N AV aa aj IntKind
end Go.Am.B

/- basis.Blossom. -/
namespace Go.Am.B
open Go Go.Am.N AV aa aj IntKind
theorem OE:aO P BD lp (au lp):=aQ Vr (by kernel_rfl) (by kernel_rfl) (by kernel_rfl)
def p7:aR:=nG::(pJ,uS)::(z6,EB)::fI
noncomputable abbrev Dz:Code:=au lp
noncomputable abbrev rC:Code:=part Dz [1,1,1,1,0,1,0,0]
noncomputable abbrev zQ:Code:=part rC [1,1,0,0]
abbrev sB:Nat:=536870912
theorem Ai:aY P p7:=dr (aG xw (aG Nd ga))
def gR (n:Nat) (k:Nat→Rat) (p m l:Nat) (i:Int):Int:=if(m:Int)≠(n:Int)-p-1∨l≠p then 1 else if i<p∨(m:Int)≤i∨k (i.toNat+1)≤k i.toNat then 7 else 0
def jN (n:Nat) (k:Nat→Rat) (p m:Nat) (c:Nat→Rat) (i:Int) (l:Nat) (a:Nat→Rat):Rat:=if gR n k p m l i=0 then bR k (i.toNat-p) p a (fun j=>c (i.toNat-p+j)) p p else 0
abbrev OG (n:Nat) (k:Nat→Rat) (p m:Nat) (c:Nat→Rat) (i:Int) (l:Nat) (a:Nat→Rat):AV:=.tuple [.rat (jN n k p m c i l a) sB,.int .i64 (gR n k p m l i)]
theorem UC {n p m l:Nat} {k c a:Nat→Rat} {i e:Int} (h:gR n k p m l i=e) (he:e≠0):dX [.agg [.bool false,.mag 0,.mag 0],.int .i64 e] (OG n k p m c i l a):=
 ⟨by unfold jN;rw[if_neg (by rw[h];exact he)];exact lR,bw h.symm,trivial⟩
theorem MJ {n p m l:Nat} {k:Nat→Rat} {i:Int} (h:(m:Int)≠(n:Int)-p-1∨l≠p):gR n k p m l i=1:=if_pos h
theorem Ig {n p m l:Nat} {k:Nat→Rat} {i:Int} (h:(m:Int)=(n:Int)-p-1) (hl:l=p) (h2:i<p∨(m:Int)≤i∨k (i.toNat+1)≤k i.toNat):gR n k p m l i=7:=by
 unfold gR;rw[if_neg (by omega),if_pos h2]
theorem HY {n p m l:Nat} {k:Nat→Rat} {i:Int} (h:(m:Int)=(n:Int)-p-1) (hl:l=p) (h2:¬(i<p∨(m:Int)≤i∨k (i.toNat+1)≤k i.toNat)):gR n k p m l i=0:=by
 unfold gR;rw[if_neg (by omega),if_neg h2]
def lF (k:Nat→Rat) (b p r:Nat) (t:Rat) (x:Nat→Rat) (j i:Nat):Rat:=if i≤j then x i else gi k b p r t x i
def mO (r j i:Nat):Nat:=if i≤j then SB r else SB (r+1)
theorem UK {rl:List (Nat×Nat)} {k:Nat→Rat} {b p r j i s:Nat} {t:Rat} {x:Nat→Rat} (hj:r<j) (hs:s≤SB (r+1)):
  fD rl (.rat (bif i==j then lF k b p r t x j (j-1)+fr (k (b+j)) (k (b+j+(p-r))) t*(lF k b p r t x j j-lF k b p r t x j (j-1))else lF k b p r t x j i) (bif i==j then s else mO r j i)) (.rat (lF k b p r t x (j-1) i) (mO r (j-1) i)):=by
 refine .inr ⟨rfl,?_⟩
 by_cases h:i=j
 ·subst h
  simp only[beq_self_eq_true,cond_true]
  refine bS ?_ ?_
  ·unfold lF
   rw[if_pos (by omega),if_pos (by omega),if_neg (by omega)]
   unfold gi
   rw[if_pos hj]
  ·unfold mO
   rw[if_neg (by omega)];exact hs
 ·have hb:(i==j)=false:=by simpa using h
  rw[hb]
  refine bS ?_ ?_
  ·simp only[cond_false]
   unfold lF
   by_cases h2:i≤j
   ·rw[if_pos h2,if_pos (by omega)]
   ·rw[if_neg h2,if_neg (by omega)]
  ·simp only[cond_false]
   unfold mO
   by_cases h2:i≤j
   ·rw[if_pos h2,if_pos (by omega)];exact Nat.le_refl _
   ·rw[if_neg h2,if_neg (by omega)];exact Nat.le_refl _
theorem abl {k:Nat→Rat} {b p r i:Nat} {t:Rat} {x:Nat→Rat}:lF k b p r t x r i=gi k b p r t x i:=by
 unfold lF
 split
 ·unfold gi;rw[if_neg (by omega)]
 ·rfl
end Go.Am.B

/- ref09.Polar, ref09.Blossom; contracts of polar forms. -/
namespace Go.Am.B
open Go Go.Am.N AV aa aj IntKind
end Go.Am.B

/- basis.Blossom, handed coefficients that may still be written to. -/
namespace Go.Am.B
open Go Go.Am.N AV aa aj IntKind
abbrev jX (m:Nat) (c:Nat→Rat):ah:=⟨true,true,3,m,fun i=>.rat (c i) sK⟩
abbrev nI:List Nat:=[10,11,2,4,0,1,3,12,66,67,68]
abbrev tf (n:Nat) (k:Nat→Rat) (p m:Nat) (a:Nat→Rat) (i:Nat) (r:Nat):List AV:=[.ptr 1 0 3 0 [],.int .i64 0,.own 0 3 0 m,ls a p,ls k n,.int .i64 p,.int .i64 i,.own 2 3 0 (p+1),ls a p,.int .i64 p,.int .i64 r]
abbrev mH (p m:Nat) (c:Nat→Rat) (x:Nat→Rat) (s:Nat→Nat):aC:=[(2,j7 (p+1) x s),(1,zO),(0,jX m c)]
abbrev vF:List Nat:=[10,11,2,4,0,1,3,12,66,67,68,13,14,15]
abbrev Fh (n:Nat) (k:Nat→Rat) (p m:Nat) (a:Nat→Rat) (i:Nat) (r j:Nat):List AV:=[.ptr 1 0 3 0 [],.int .i64 0,.own 0 3 0 m,ls a p,ls k n,.int .i64 p,.int .i64 i,.own 2 3 0 (p+1),ls a p,.int .i64 p,.int .i64 r,.int .i64 r,.ptr 3 0 3 0 [],.int .i64 j]
theorem ahf {n m p l:Nat} {k c a:Nat→Rat} {i:Int}:aH T p7 [18,25,36,42,32] 60 nI (before Dz [1,1,1,1,0,1]) ⟨aN 0 [ls k n,.int .i64 p,.own 0 3 0 m,.int .i64 i,ls a l],[(0,jX m c)],1⟩=
  let c28 : Prop := n < 2 ^ 40; let c27 : Prop := sK < 2 ^ 42; let c26 : Prop := bG (fun i ↦ rat (k i) sK) n sK; let c25 : AV := own 0 3 0 m; let c24 : Int := i + (1 : Int); let c23 : AV := ak 3 n fun i ↦ rat (k i) 4096; let c20 : Int := (2 : Int) ^ 40; let c19 : AV := rat 0 1; let c17 : Nat × ah := ((0 : Nat), ah.mk true true 3 m fun i ↦ rat (c i) 4096); let c15 : AV := ptr 1 0 3 0 []; let c14 : AV := ak 3 l fun i ↦ rat (a i) 4096; let c13 : Int := (2 : Int) ^ 63; let c12 : Int := (↑m : Int); let c5 : Int := (↑p : Int); let c21 : Bool := decide (i < c5); let c18 : Bool := c12 != (↑n : Int) - c5 - (1 : Int); let c16 : Bool := bif false then true else decide (i ≥ c12); let c11 : Int := c5 + (1 : Int); let c10 : Int := fe (k i.toNat) (k c24.toNat); let c8 : List AV := [c25, c14, c23, int i64 c5, int i64 i, tuple [], tuple [], tuple [], tuple []]; let c7 : List Prop := [(0 : Int) ≤ i ∧ i.toNat < n, -c13 ≤ c24 ∧ c24 < c13, (0 : Int) ≤ c24 ∧ c24.toNat < n, c27, c27]; let c6 : List (Nat × ah) := [c17, ((1 : Nat), ah.mk false true 3 1 fun j ↦ if (j == 0) = true then bn (agg c19.kids) else c19)]; let c22 : Bool := bif false then true else decide (c10 ≥ (0 : Int)); let c9 : Nat := 0 + Min.min (c12.toNat - (i - c5).toNat) c11.toNat; let c4 : aa (List AV × aC) := ag [(0 : Nat) < 1] (leaf ret (c15 :: int i64 (1 : Int) :: c8, c6)); let c2 : aa (List AV × aC) := ag [(0 : Nat) < 1] (leaf ret (c15 :: int i64 (7 : Int) :: c8, c6)); let c1 : aa (List AV × aC) := ag [-c13 ≤ c11 ∧ c11 < c13, (0 : Int) ≤ c11 ∧ c11 ≤ c11 ∧ c11 ≤ (2 : Int) ^ 47 ∧ c11 * (↑(56 : Nat) : Int) ≤ (2 : Int) ^ 47] (ag [-c13 ≤ i - c5 ∧ i - c5 < c13, (0 : Int) ≤ i - c5 ∧ i - c5 ≤ c12 ∧ c12 ≤ c12 ∧ c12 ≤ c12] (leaf normal ([c15, int i64 (0 : Int), c25, c14, c23, int i64 c5, int i64 i, own 163841 3 0 c11.toNat, c14, int i64 (↑l : Int), int i64 (0 : Int)], [((163841 : Nat), ah.mk true true 3 c11.toNat fun i_1 ↦ if 0 ≤ i_1 ∧ i_1 < c9 then rat (c (i_1 - 0 + ((0 : Nat) + (i - c5).toNat))) sK else c19), c17, ((1 : Nat), ah.mk false true 3 1 fun x ↦ c19)]))); let c3 : aa (List AV × aC) := fork c21 (fork true (ag [c21 = true, true = true] (fork true c2 c1)) (ag ((c21 = true) :: (true = false) :: c7) (fork c22 c2 c1))) (fork c16 (ag [c21 = false, c16 = true] (fork true c2 c1)) (ag ((c21 = false) :: (c16 = false) :: c7) (fork c22 c2 c1))); some (fork c18 (ag [c26, c28, -c20 < c5, c5 < c20, c18 = true] (fork true c4 c3)) (ag [c26, c28, -c20 < c5, c5 < c20, c18 = false] (fork (bif false then true else (↑l : Int) != c5) c4 c3))) := by kernel_rfl
theorem VR {e:Int} {m:Nat} {c:Nat→Rat}:xh T lp .ret ⟨aA [10,11,2] [.ptr 1 0 3 0 [],.int .i64 e,.own 0 3 0 m],[(0,jX m c),(1,⟨false,true,3,1,fun j=>if(j==0)=true then bn (agg (kids (.rat 0 1)))else .rat 0 1⟩)],2⟩=
  some (ag [(0:Nat)<1] (leaf ret ([agg [AV.bool false,mag 0,mag 0],int i64 e],some (ah.mk true true 3 m fun i↦rat (c i) 4096)))):=by kernel_rfl
theorem acg {n p m i r:Nat} {k a c x:Nat→Rat} {s:Nat→Nat}:aH T p7 [69] 60 nI (before rC [1,1,0]) ⟨aA nI (tf n k p m a i r),mH p m c x s,3⟩=
  let c3:Int:=(↑p:Int);let c2:AV:=ak 3 p fun i↦rat (a i) 4096;let c1:List AV×aC:=([ptr 1 0 3 0 [],int i64 (0:Int),own 0 3 0 m,c2,ak 3 n fun i↦rat (k i) 4096,int i64 c3,int i64 (↑i:Int),own 2 3 0 (p+1),c2,int i64 c3,int i64 (↑r:Int)],[((2:Nat),ah.mk true true 3 (p+1) fun i↦rat (x i) (s i)),((0:Nat),ah.mk true true 3 m fun i↦rat (c i) 4096),((1:Nat),ah.mk false true 3 1 fun x↦rat 0 1)]);some (fork (decide ((↑r:Int)<c3)) (leaf normal c1) (leaf (exit 1) c1)):=by kernel_rfl
theorem SH {n p m i r:Nat} {k a c x:Nat→Rat} {s:Nat→Nat}:aH T p7 [] 60 vF (before zQ [1,1]) ⟨aA nI (tf n k p m a i r),mH p m c x s,3⟩=
  let c4:AV:=rat 0 1;let c3:Int:=(↑r:Int);let c2:AV:=int i64 (↑p:Int);let c1:AV:=ak 3 p fun i↦rat (a i) 4096;some (ag [(0:Int)≤c3∧c3.toNat<p,(0:Nat)<1] (leaf normal ([ptr 1 0 3 0 [],int i64 (0:Int),own 0 3 0 m,c1,ak 3 n fun i↦rat (k i) 4096,c2,int i64 (↑i:Int),own 2 3 0 (p+1),c1,c2,int i64 c3,int i64 c3,ptr 12291 0 3 0 [],c2],[((12291:Nat),ah.mk false true 3 1 fun j↦if(j==0)=true then bn (rat (a c3.toNat) sK)else c4),((2:Nat),ah.mk true true 3 (p+1) fun i↦rat (x i) (s i)),((0:Nat),ah.mk true true 3 m fun i↦rat (c i) 4096),((1:Nat),ah.mk false true 3 1 fun x↦c4)]))):=by kernel_rfl
theorem TG {n p m i r j:Nat} {k a c x:Nat→Rat} {s:Nat→Nat} {t:Rat}:aH T p7 [76] 60 vF [part zQ [1,1,0,0]] ⟨aA vF (Fh n k p m a i r j),(3,tP t sK)::mH p m c x s,4⟩=
  let c27:Int:=(↑r:Int);let c23:Int:=(↑i:Int);let c21:AV:=own 0 3 0 m;let c19:Prop:=0<1;let c17:AV:=ptr 3 0 3 0 [];let c16:AV:=ptr 1 0 3 0 [];let c15:AV:=ak 3 n fun i↦rat (k i) 4096;let c13:Int:=(↑p:Int);let c12:Int:=(↑j:Int);let c11:Nat×ah:=((3:Nat),ah.mk false true 3 1 fun x↦rat t 4096);let c10:Nat:=2^42;let c8:Nat:=p+1;let c7:AV:=ak 3 p fun i↦rat (a i) 4096;let c6:List (Nat×ah):=[((0:Nat),ah.mk true true 3 m fun i↦rat (c i) 4096),((1:Nat),ah.mk false true 3 1 fun x↦rat 0 1)];let c3:Int:=(2:Int)^63;let c26:AV:=int i64 c13;let c24:Prop:=(0:Int)≤c12∧c12.toNat<c8;let c20:AV:=own 2 3 0 c8;let c14:AV:=int i64 c27;let c4:Nat:=c12.toNat+0;let c2:Int:=c23-c13+c12;let c1:Int:=c12-(1:Int);let c25:Prop:=(0:Int)≤c1∧c1.toNat<c8;let c22:Prop:=-c3≤c1∧c1<c3;let c9:Int:=c2+c13-c27;let c5:Nat:=c1.toNat+0;let c18:Nat:=s c4+s c5+1;some (fork (decide (c12>c27)) (ag [-c3≤c23-c13∧c23-c13<c3,-c3≤c2∧c2<c3] (ag [(0:Int)≤c2∧c2.toNat<n,-c3≤c2+c13∧c2+c13<c3,-c3≤c9∧c9<c3,(0:Int)≤c9∧c9.toNat<n,c19,sK≤sK,sK≤sK,sK≤sK,c19] (ag [c22,c25,c5<c8,c19,c24,c4<c8,c22,c25,c5<c8,s c4<c10,s c5<c10,sF<c10,c18<c10,s c5<c10,sF+c18<c10,c24,c4<c8] (ag [c22] (leaf normal ([c16,int i64 (0:Int),c21,c7,c15,c26,int i64 c23,c20,c7,c26,c14,c14,c17,int i64 c1],c11::((2:Nat),ah.mk true true 3 c8 fun j↦rat (bif j==c4 then x c5+fr (k c2.toNat) (k c9.toNat) t*(x c4-x c5)else x j) (bif j==c4 then s c5+(sF+c18)+1 else s j))::c6)))))) (leaf (exit 3) ([c16,int i64 (0:Int),c21,c7,c15,c26,int i64 c23,c20,c7,c26,c14,c14,c17,int i64 c12],c11::((2:Nat),ah.mk true true 3 c8 fun i↦rat (x i) (s i))::c6))):=by kernel_rfl
theorem abR {n p m i r j:Nat} {k a c x:Nat→Rat} {s:Nat→Nat} {t:Rat}:aH T p7 [] 60 nI [part rC [1,1,1]] ⟨aA vF (Fh n k p m a i r j),(3,tP t sK)::mH p m c x s,4⟩=
  let c2:Int:=(↑r:Int)+(1:Int);let c1:AV:=ak 3 p fun i↦rat (a i) 4096;some (ag [-(2:Int)^63≤c2∧c2<(2:Int)^63] (leaf normal ([ptr 1 0 3 0 [],int i64 (0:Int),own 0 3 0 m,c1,ak 3 n fun i↦rat (k i) 4096,int i64 (↑p:Int),int i64 (↑i:Int),own 2 3 0 (p+1),c1,int i64 (↑p:Int),int i64 c2],[((2:Nat),ah.mk true true 3 (p+1) fun i↦rat (x i) (s i)),((0:Nat),ah.mk true true 3 m fun i↦rat (c i) 4096),((1:Nat),ah.mk false true 3 1 fun x↦rat 0 1)]))):=by kernel_rfl
theorem ZW {n p m i r:Nat} {k a c x:Nat→Rat} {s:Nat→Nat}:Eh T p7 [] 60 lp [part Dz [1,1,1,1,1]] ⟨aA nI (tf n k p m a i r),mH p m c x s,3⟩=
  let c1:Nat:=(↑p:Int).toNat+0;some (ag [(0:Int)≤(↑p:Int)∧(↑p:Int).toNat<p+1,c1<p+1,s c1<2^42,(1:Nat)<2^42,(0:Nat)<1] (ag [(0:Nat)<1] (leaf ret ([rat (x c1+0) (s c1+1+1),int i64 (0:Int)],some (ah.mk true true 3 m fun i↦rat (c i) 4096))))):=by kernel_rfl
theorem agW {n p m l:Nat} {k c a:Nat→Rat} {i:Int} (hp1:1≤p) (hp6:p≤6) (hn:n<2^40) (hm2:m<2^40) (hi:-2^40<i) (hi2:i<2^40) (cx:Ctx) (hk:Kept [0] cx):
  aq P cx lp.ntmps (au lp) ⟨aN 0 [ls k n,.int .i64 p,.own 0 3 0 m,.int .i64 i,ls a l],[(0,jX m c)],1⟩ (dO cx (vI T lp [.rat (jN n k p m c i l a) sB,.int .i64 (gR n k p m l i)] (jX m c))):=by
 obtain⟨b,hb⟩:∃b,b=i.toNat-p:=⟨_,rfl⟩
 obtain⟨x,hx⟩:∃x:Nat→Nat→Rat,x=fun r=>bR k b p a (fun j=>c (b+j)) r:=⟨_,rfl⟩
 have hx0:x 0=fun j=>c (b+j):=by rw[hx];rfl
 have hxS:∀r,x (r+1)=gi k b p r (a r) (x r):=fun r=>by rw[hx];rfl
 have hSF:=Dj
 have hSK:sK=4096:=rfl
 have hSV:sV=268435456:=rfl
 have hrow:∀(l:Nat) (a:Nat→Rat) (w:Bool) (ρ:Nat→Option Nat),cu ρ ⟨true,w,3,l,fun i=>.rat (a i) sK⟩ ⟨true,w,3,l,fun i=>.rat (a i) sK⟩:=fun l a w ρ=>ji rfl fun _ _=>aI rfl
 refine aq.yY hT Ai hm [1,1,1,1,0,1] (i:=1) (y:=rC) (z:=part Dz [1,1,1,1,1]) (by kernel_rfl) (by kernel_rfl) (by kernel_rfl) OE.dst hk (f1:=[18,25,36,42,32]) 60 nI 3 (fun r:Nat=>tf n k p m a i.toNat r) (fun r=>mH p m c (x r) fun _=>SB r)
  (fun r=>r≤p∧gR n k p m l i=0) (fun r=>r=p∧gR n k p m l i=0) (fun r=>p-r) (CL T lp [10,11,2] [.rat (jN n k p m c i l a) sB,.int .i64 (gR n k p m l i)] (jX m c)) ⟨_,ahf,?_⟩ (fun r ⟨hr,he⟩=>?_) (fun r ⟨hr,he⟩=>?_) (fun v s' hv hs'=>hv.fin (L1:=[4,0,1,3,12,66,67,68]) hk hs')
 ·simp only[aa.all,ax,vR,bne_iff_ne,ne_eq,bne_eq_false_iff_eq,Int.toNat_natCast,cond_false,decide_eq_true_eq,decide_eq_false_iff_not,IG]
  have ret:∀{e:Int} {us:List AV},gR n k p m l i=e→e≠0→aZ us=[]→CL T lp [10,11,2] [.rat (jN n k p m c i l a) sB,.int .i64 (gR n k p m l i)] (jX m c) ([ptr 1 0 3 0 [],int i64 e,own 0 3 0 m]++us,[((0:Nat),jX m c),((1:Nat),ah.mk false true 3 1 fun j↦if(j==0)=true then bn (agg (kids (.rat 0 1)))else .rat 0 1)]):=fun {e us} h1 h2 h3=>
   ⟨[_,_,_],us,2,_,rfl,rfl,h3,VR,rfl,⟨⟨by omega,fun i _=>rfl⟩,⟨by omega,fun i _=>xI rfl rfl⟩,trivial⟩,by omega,Nat.zero_lt_one,rfl,rfl,UC h1 h2,⟨_,rfl,hrow _ _ _⟩⟩
  (repeat' with_reducible first|refine And.intro ?_ ?_|intro _)
  all_goals first|omega|exact cM (Nat.le_refl _)|exact absurd ‹true=false› (by decide)|assumption|skip
  all_goals first|exact ret (MJ (.inl ‹_›)) (by decide) rfl|exact ret (MJ (.inr (by omega))) (by decide) rfl|skip
  all_goals first|exact ret (Ig (by omega) (by omega) (.inl (by omega))) (by decide) rfl|exact ret (Ig (by omega) (by omega) (.inr (.inl (by omega)))) (by decide) rfl|skip
  all_goals have e1:(i+1).toNat=i.toNat+1:=by omega
  ·exact ret (Ig (by omega) (by omega) (.inr (.inr (by rw[←e1];assumption)))) (by decide) rfl
  ·rename_i h1
   rw[e1]at h1
   have hlp:l=p:=by omega
   subst hlp
   refine⟨0,⟨by omega,HY (by omega) rfl (by rintro(h|h|h)<;>first|omega|exact h1 h)⟩,[(0,0),(1,1),(2,163841)],rfl,?_,rfl,bh rfl rfl (by omega) (fun j hj=>?_) (aJ rfl rfl (aE rfl rfl) (bh rfl rfl rfl (fun j hj=>aE rfl rfl) trivial))⟩
   ·rw[show((l:Int)+1).toNat=l+1 by omega]
    show _=[_,_,_,_,_,_,AV.int i64 ((i.toNat:Nat):Int),_,_,_,_]
    rw[show((i.toNat:Nat):Int)=i by omega]
    rfl
   ·rw[if_pos (by omega),hx0,show(i-(l:Int)).toNat=b by omega,Nat.sub_zero,Nat.zero_add,Nat.add_comm j b]
    exact .inr ⟨rfl,bS rfl (show sK≤SB 0 by decide)⟩
 ·have hin:(m:Int)=(n:Int)-p-1∧p≤i.toNat∧i.toNat<m∧i.toNat=b+p∧l=p:=by
   unfold gR at he
   split at he
   ·omega
   ·split at he
    ·omega
    ·omega
  obtain⟨i1,i2,i3,i4,i5⟩:=hin
  subst i5
  have hr4:∀{s:Nat→Nat} {y:Nat→Rat},lQ 3 [(0,0),(1,1),(2,2)] [((2:Nat),ah.mk true true 3 (l+1) fun i↦rat (y i) (s i)),((0:Nat),jX m c),((1:Nat),ah.mk false true 3 1 fun x↦rat 0 1)] (mH l m c y s):=bh rfl rfl rfl (fun j hj=>aE rfl rfl) (aJ rfl rfl (aE rfl rfl) (bh rfl rfl rfl (fun j hj=>aE rfl rfl) trivial))
  refine aq.qi hT Ai hm (y:=rC) (x1:=zQ) (zb:=part rC [1,1,1]) [1,1,0] (j:=2) (by kernel_rfl) (by kernel_rfl) (by kernel_rfl) (by kernel_rfl) hk (f1:=[69]) 60 nI 3 (fun _:Unit=>tf n k l m a i.toNat r) (fun _=>mH l m c (x r) fun _=>SB r) (fun _=>r<l) ⟨_,acg,?_⟩ (fun _ hr'=>?_)
  ·simp only[aa.all,ax,decide_eq_true_eq,decide_eq_false_iff_not]
   have re:∀{s:Nat→Nat} {y:Nat→Rat},dU [0] ([ptr 1 0 3 0 [],int i64 (0:Int),own 0 3 0 m,ls a l,ak 3 n fun i↦rat (k i) sK,int i64 l,int i64 (i.toNat:Nat),own 2 3 0 (l+1),ls a l,int i64 l,int i64 (r:Nat)],[((2:Nat),ah.mk true true 3 (l+1) fun i↦rat (y i) (s i)),((0:Nat),jX m c),((1:Nat),ah.mk false true 3 1 fun x↦rat 0 1)]) (tf n k l m a i.toNat r) (mH l m c y s) 3:=
    ⟨[(0,0),(1,1),(2,2)],rfl,rfl,rfl,hr4⟩
   exact⟨fun h1=>⟨(),by omega,re⟩,fun h1 s' hs'=>⟨rfl,r,⟨by omega,he⟩,re.le hs' hk⟩⟩
  have h1:=u5 (d:=r)
  have h2:=wC (d:=r) (by omega)
  have h3:=CD (d:=r)
  refine aq.xl hT Ai hm (x:=zQ) [1,1] (i:=3) (y:=part zQ [1,1,0,0]) (by kernel_rfl) (by kernel_rfl) (by kernel_rfl) hk (f1:=[]) (f2:=[76]) 60 vF 4 (fun j:Nat=>Fh n k l m a i.toNat r j) (fun j=>(3,tP (a r) sK)::mH l m c (lF k b l r (a r) (x r) j) (mO r j)) (fun j=>r≤j∧j≤l) (fun j=>j=r) (fun j=>j) (fun _=>False) ⟨_,SH,?_⟩ (fun j hj=>⟨_,TG,?_⟩) (fun j s' hj hle=>?_) (fun _ _ h=>h.elim)
  ·simp only[aa.all,ax,Int.toNat_natCast]
   refine⟨⟨by omega,by omega⟩,l,by omega,[(0,0),(1,1),(2,2),(3,12291)],rfl,rfl,rfl,aJ rfl rfl (aE rfl rfl) (bh rfl rfl rfl (fun j hj=>aE rfl ?_) (aJ rfl rfl (aE rfl rfl) (bh rfl rfl rfl (fun j hj=>aE rfl rfl) trivial)))⟩
   unfold lF mO
   rw[if_pos (by omega),if_pos (by omega)]
  ·obtain⟨hj1,hj2⟩:=hj
   have e1:((i.toNat:Nat):Int)-(l:Int)+(j:Int)=((b+j:Nat):Int):=by omega
   have e2:((b+j:Nat):Int)+(l:Int)-(r:Int)=((b+j+(l-r):Nat):Int):=by omega
   have u1:∀{j':Nat},j'≤j→mO r j j'=SB r:=fun h=>by unfold mO;rw[if_pos h]
   simp only[aa.all,ax,decide_eq_true_eq,decide_eq_false_iff_not,e1,e2,Int.toNat_natCast,Nat.add_zero]
   refine⟨fun h4=>?_,fun h4=>⟨rfl,j,by omega,[(0,0),(1,1),(2,2),(3,3)],rfl,rfl,rfl,aJ rfl rfl (aE rfl rfl) (bh rfl rfl rfl (fun j hj=>aE rfl rfl) (aJ rfl rfl (aE rfl rfl) (bh rfl rfl rfl (fun j hj=>aE rfl rfl) trivial)))⟩⟩
   have e3:((j:Int)-1).toNat=j-1:=by omega
   have u2:=u1 (j':=j) (Nat.le_refl _)
   have u3:=u1 (j':=j-1) (by omega)
   simp only[e3,u2,u3]
   (repeat' with_reducible refine And.intro ?_ ?_)
   all_goals first|omega|skip
   exact⟨j-1,by omega,by dsimp only;omega,[(0,0),(1,1),(2,2),(3,3)],rfl,by rw[show(j:Int)-1=((j-1:Nat):Int) by omega];rfl,rfl,aJ rfl rfl (aE rfl rfl) (bh rfl rfl rfl (fun q hq=>UK (by omega) (by omega)) (aJ rfl rfl (aE rfl rfl) (bh rfl rfl rfl (fun j hj=>aE rfl rfl) trivial)))⟩
  ·subst hj
   show aq P cx lp.ntmps (part rC [1,1,1]) s' _
   refine aq.kg hle (aq.bf hT Ai hm 60 nI abR (by kernel_rfl) ?_)
   simp only[aa.all,ax]
   refine⟨by omega,fun s' hs'=>⟨j+1,⟨by omega,he⟩,by dsimp only;omega,dU.le ⟨[(0,0),(1,1),(2,2)],rfl,rfl,rfl,bh rfl rfl rfl (fun q hq=>?_) (aJ rfl rfl (aE rfl rfl) (bh rfl rfl rfl (fun j hj=>aE rfl rfl) trivial))⟩ hs' hk⟩⟩
   refine .inr ⟨rfl,bS (by rw[abl,hxS]) ?_⟩
   show mO j j q≤SB (j+1)
   unfold mO
   split<;>omega
 ·have hlp:l=p:=by
   unfold gR at he
   split at he
   ·omega
   ·omega
  subst hlp
  subst hr
  refine aq.mD ((aD.akE hT Ai hm 60 ZW (by kernel_rfl) ?_).mono fun _ _ h=>.inl h)
  have h2:=wC (d:=r) hp6
  simp only[aa.all,ax,Int.toNat_natCast,Nat.add_zero]
  refine⟨⟨by omega,by omega,by omega,by omega,by omega⟩,by omega,rfl,rfl,⟨bS ?_ (by show SB r+1+1≤536870912;omega),bw he.symm,trivial⟩,⟨_,rfl,hrow _ _ _⟩⟩
  unfold jN
  rw[if_pos he,←hb,hx,Rat.add_zero]
def nR (f:Nat→AV) (n s:Nat):Prop:=∀i,i<n→keys (f i)=[]∧bB (f i) (.rat (aS (f i)) s)
theorem Nr {k:Nat→Rat} {n s s':Nat} (h:s≤s'):nR (fun i=>.rat (k i) s) n s':=fun _ _=>⟨rfl,fC h⟩
theorem nR.obj {f:Nat→AV} {n s:Nat} {w:Bool} (h:nR f n s) {m:Nat} (hm:n=m) (ρ:Nat→Option Nat):cu ρ ⟨true,w,3,n,f⟩ ⟨true,w,3,m,fun i=>.rat (aS (f i)) s⟩:=⟨rfl,rfl,rfl,hm.symm,fun i hi=>lZ (h i hi).1 (h i hi).2⟩
def FM:Spec:=fun _ args pre=>match args,pre with
 |[.ak 3 n kf,.int .i64 p,.own b 3 0 m,.int .i64 i,.ak 3 l af],[(b',⟨true,true,3,mb,fb⟩)]=>match b'==b with
  |true=>some ⟨OG n (fun i=>aS (kf i)) p.toNat m (fun i=>aS (fb i)) i l (fun i=>aS (af i)),[(b,jX m fun i=>aS (fb i))],
   [mb=m,bG kf n sK,bG af l sK,nR fb m sK,1≤p,p≤6,n<2^40,m<2^40,-2^40<i,i<2^40]⟩
  |false=>none
 |_,_=>none
theorem WI:∀K args pre r,FM K args pre=some r→aB P BD K args pre r:=by
 intro K args pre r h
 unfold FM at h
 split at h
 ·rename_i n kf p b m i l af b' mb fb
  split at h
  ·rename_i hc
   have hc:=eq_of_beq hc
   subst hc
   simp only[Option.some.injEq]at h
   subst h
   intro need
   obtain⟨rfl,n1,n2,n3,n4,n5,n6,n7,n8,n9⟩:=need
   refine XH hT OE (args:=[.ak 3 n kf,.int .i64 p,.own b' 3 0 mb,.int .i64 i,.ak 3 l af]) (us:=[.rat (jN n (fun i=>aS (kf i)) p.toNat mb (fun i=>aS (fb i)) i l (fun i=>aS (af i))) sB,.int .i64 (gR n (fun i=>aS (kf i)) p.toNat mb l i)]) (args0:=[ls (fun i=>aS (kf i)) n,.int .i64 p,.own 0 3 0 mb,.int .i64 i,ls (fun i=>aS (af i)) l]) (of_decide_eq_true (by kernel_rfl))
    ⟨⟨rfl,lZ rfl (FL n1)⟩,⟨rfl,aI rfl⟩,⟨rfl,cw rfl rfl rfl⟩,⟨rfl,aI rfl⟩,⟨rfl,lZ rfl (FL n2)⟩,trivial⟩ (fun _ ρ=>n3.obj rfl ρ) (fun _ c hk=>?_) K ⟨rfl,n1,n2,n3,n4,n5,n6,n7,n8,n9⟩
   have:=agW (n:=n) (p:=p.toNat) (m:=mb) (l:=l) (k:=fun i=>aS (kf i)) (c:=fun i=>aS (fb i)) (a:=fun i=>aS (af i)) (i:=i) (by omega) (by omega) n6 n7 n8 n9 c hk
   rw[Int.toNat_of_nonneg (by omega)]at this
   exact this
  ·simp at h
 ·simp at h
end Go.Am.B

/- spline.piece, Spline.polar. -/
namespace Go.Am.B
open Go Go.Am.N AV aa aj IntKind
theorem aa8:aO P u9 yR (au yR):=aQ aiJ (by kernel_rfl) (by kernel_rfl) (by kernel_rfl)
theorem Lr:aO P uQ nw (au nw):=aQ afV (by kernel_rfl) (by kernel_rfl) (by kernel_rfl)
def qk (k:Nat→Rat) (n:Nat):Nat→Nat→Nat
 |0,i=>i
 |f+1,i=>if i+1<n∧k (i+1)≤k i then qk k n f (i+1)else i
def ej (k:Nat→Rat) (n i:Nat):Nat:=qk k n (n-i) i
abbrev yX:List Nat:=[0,1,4]
abbrev Es (n i:Nat) (k:Nat→Rat):List AV:=[ls k n,.int .i64 i,.int .i64 0]
noncomputable abbrev xG:Code:=au yR
def fz (h:Pl):Nat→Rat
 |0=>h.n.x
 |1=>h.n.y
 |2=>h.n.z
 |_=>h.d
def nC (g:Nat→Rat):Nat→Pl
 |0=>⟨⟨0,0,0⟩,0⟩
 |1=>⟨⟨g 0,0,0⟩,0⟩
 |2=>⟨⟨g 0,g 1,0⟩,0⟩
 |3=>⟨⟨g 0,g 1,g 2⟩,0⟩
 |_=>⟨⟨g 0,g 1,g 2⟩,g 3⟩
def gr (c:Cu) (i:Int) (l:Nat) (g:Nat→Rat) (a:Nat):Rat:=jN c.n c.k c.p.toNat c.m (fun j=>fz (c.f j) a) i l g
def l8 (c:Cu) (i:Int) (l:Nat) (g:Nat→Rat):Pl:=⟨⟨gr c i l g 0,gr c i l g 1,gr c i l g 2⟩,gr c i l g 3⟩
def nj (c:Cu) (a:Nat) (x:Nat→Rat) (j q:Nat):Rat:=if q<j∨c.m≤q then fz (c.f q) a else x q
theorem Vp {c:Cu} {a:Nat} {x:Nat→Rat}:nj c a x c.m=fun q=>fz (c.f q) a:=by
 funext q;unfold nj;rw[if_pos (by omega)]
noncomputable def pq:aR:=nG::(BD,FM)::fI
abbrev iH:List Nat:=[1,2,3,6,7,8,16]
abbrev j0 (c:Cu) (i:Int) (l:Nat) (g:Nat→Rat) (a:Nat):List AV:=[.int .i64 i,ls g l,.ptr 0 0 3 0 [],.ptr 1 0 12 0 [],.ptr 2 0 12 0 [],.own 3 3 0 c.m,.int .i64 a]
abbrev zU:List Nat:=[1,2,3,6,7,8,16,9,20,21,22]
abbrev Dv (c:Cu) (i:Int) (l:Nat) (g:Nat→Rat) (a j:Nat):List AV:=[.int .i64 i,ls g l,.ptr 0 0 3 0 [],.ptr 1 0 12 0 [],.ptr 2 0 12 0 [],.own 3 3 0 c.m,.int .i64 a,.int .i64 a,oy c.f c.m sK,.int .i64 c.m,.int .i64 j]
abbrev iW (c:Cu) (x:Nat→Rat) (h:Pl):aC:=[(3,jX c.m x),(2,jc h sB),(1,jc ⟨⟨0,0,0⟩,0⟩ 1),(0,pX c sK)]
noncomputable abbrev Cr:Code:=au nw
noncomputable abbrev nT:Code:=part Cr [1,1,1,0,1,0,0]
noncomputable abbrev nJ:Code:=part nT [1,1,0,0]
theorem aiv {n i:Nat} {k:Nat→Rat}:aH T (nG::fI) [] 60 yX (before xG [1,0]) ⟨aN 0 [ls k n,.int .i64 i],[],0⟩=
  some (leaf normal ([ak 3 n fun i↦rat (k i) 4096,int i64 (↑i:Int),int i64 (0:Int)],[])):=by kernel_rfl
theorem aiD {n i:Nat} {k:Nat→Rat}:aH T (nG::fI) [10,22] 60 yX [part xG [1,0,0,0]] ⟨aA yX (Es n i k),[],0⟩=
  let c9:Prop:=sK<2^42;let c8:Int:=(↑i:Int);let c3:AV:=ak 3 n fun i↦rat (k i) 4096;let c4:aa (List AV×aC):=leaf (exit 0) ([c3,int i64 c8,int i64 (0:Int)],[]);let c1:Int:=c8+(1:Int);let c7:Int:=fe (k c8.toNat) (k c1.toNat);let c6:Bool:=decide (c1<(↑n:Int));let c2:Prop:=-(2:Int)^63≤c1∧c1<(2:Int)^63;let c5:aa (List AV×aC):=ag [c2] (leaf normal ([c3,int i64 c1,int i64 (0:Int)],[]));some (fork c6 (ag [c2,c6=true,(0:Int)≤c8∧c8.toNat<n,c2,(0:Int)≤c1∧c1.toNat<n,c9,c9] (fork (bif true then decide (c7≥(0:Int))else false) c5 c4)) (ag [c2,c6=false] (fork false c5 c4))):=by kernel_rfl
theorem UD {n i:Nat} {k:Nat→Rat}:cm T (nG::fI) [] 60 yR [part xG [1,1]] ⟨aA yX (Es n i k),[],0⟩=
  some (leaf ret [int i64 (↑i:Int)]):=by kernel_rfl
theorem V7 {c:Cu} {i:Int} {l:Nat} {g:Nat→Rat}:aH T pq [] 60 iH (before Cr [1,1,1,0,1]) ⟨aN 0 [eB c sK sK,.int .i64 i,ls g l],[],0⟩=
  let c4:Nat:=(bn (eB c sK sK)).size;let c3:Int:=(↑c.m:Int);let c1:AV:=rat 0 1;let c2:ah:=ah.mk false true 12 1 fun x↦agg [c1,c1,c1,c1];some (ag [(0:Nat)<1,(0:Int)≤c3∧c3≤c3∧c3≤(2:Int)^47∧c3*(↑(56:Nat):Int)≤(2:Int)^47] (leaf normal ([int i64 i,ak 3 l fun i↦rat (g i) 4096,ptr 0 0 c4 0 [],ptr 4096 0 12 0 [],ptr 8192 0 12 0 [],own 24576 3 0 c3.toNat,int i64 (0:Int)],[((24576:Nat),ah.mk true true 3 c3.toNat fun x↦c1),((8192:Nat),c2),((4096:Nat),c2),((0:Nat),ah.mk false true c4 1 fun x↦agg [int i64 c.p,ak 3 c.n fun i↦rat (c.k i) 4096,ak 12 c.m fun i↦agg [rat (c.f i).n.x 4096,rat (c.f i).n.y 4096,rat (c.f i).n.z 4096,rat (c.f i).d 4096]])]))):=by kernel_rfl
theorem af5 {c:Cu} {i:Int} {l a:Nat} {g x:Nat→Rat} {h:Pl}:aH T pq [17] 60 iH (before nT [1,1,0]) ⟨aA iH (j0 c i l g a),iW c x h,4⟩=
  let c2:AV:=rat 0 1;let c1:List AV×aC:=([int i64 i,ak 3 l fun i↦rat (g i) 4096,ptr 0 0 3 0 [],ptr 1 0 12 0 [],ptr 2 0 12 0 [],own 3 3 0 c.m,int i64 (↑a:Int)],[((3:Nat),ah.mk true true 3 c.m fun i↦rat (x i) 4096),((2:Nat),ah.mk false true 12 1 fun x↦agg [rat h.n.x 536870912,rat h.n.y 536870912,rat h.n.z 536870912,rat h.d 536870912]),((1:Nat),ah.mk false true 12 1 fun x↦agg [c2,c2,c2,c2]),((0:Nat),ah.mk false true 3 1 fun x↦agg [int i64 c.p,ak 3 c.n fun i↦rat (c.k i) 4096,ak 12 c.m fun i↦agg [rat (c.f i).n.x 4096,rat (c.f i).n.y 4096,rat (c.f i).n.z 4096,rat (c.f i).d 4096]])]);some (fork (decide ((↑a:Int)<(4:Int))) (leaf normal c1) (leaf (exit 0) c1)):=by kernel_rfl
theorem aid {c:Cu} {i:Int} {l a:Nat} {g x:Nat→Rat} {h:Pl}:aH T pq [] 60 zU (before nJ [1,0,1]) ⟨aA iH (j0 c i l g a),iW c x h,4⟩=
  let c2:AV:=rat 0 1;let c1:AV:=ak 12 c.m fun i↦agg [rat (c.f i).n.x 4096,rat (c.f i).n.y 4096,rat (c.f i).n.z 4096,rat (c.f i).d 4096];some (ag [(0:Nat)<1] (leaf normal ([int i64 i,ak 3 l fun i↦rat (g i) 4096,ptr 0 0 3 0 [],ptr 1 0 12 0 [],ptr 2 0 12 0 [],own 3 3 0 c.m,int i64 (↑a:Int),int i64 (↑a:Int),c1,int i64 (↑c.m:Int),int i64 (0:Int)],[((3:Nat),ah.mk true true 3 c.m fun i↦rat (x i) 4096),((2:Nat),ah.mk false true 12 1 fun x↦agg [rat h.n.x 536870912,rat h.n.y 536870912,rat h.n.z 536870912,rat h.d 536870912]),((1:Nat),ah.mk false true 12 1 fun x↦agg [c2,c2,c2,c2]),((0:Nat),ah.mk false true 3 1 fun x↦agg [int i64 c.p,ak 3 c.n fun i↦rat (c.k i) 4096,c1])]))):=by kernel_rfl
theorem ajW {c:Cu} {i:Int} {l a:Nat} {g x:Nat→Rat} {h:Pl}:aH T pq [] 60 iH [part nT [1,1,1]] ⟨aA iH (j0 c i l g a),iW c x h,4⟩=
  let c2:Int:=(↑a:Int)+(1:Int);let c1:AV:=rat 0 1;some (ag [-(2:Int)^63≤c2∧c2<(2:Int)^63] (leaf normal ([int i64 i,ak 3 l fun i↦rat (g i) 4096,ptr 0 0 3 0 [],ptr 1 0 12 0 [],ptr 2 0 12 0 [],own 3 3 0 c.m,int i64 c2],[((3:Nat),ah.mk true true 3 c.m fun i↦rat (x i) 4096),((2:Nat),ah.mk false true 12 1 fun x↦agg [rat h.n.x 536870912,rat h.n.y 536870912,rat h.n.z 536870912,rat h.d 536870912]),((1:Nat),ah.mk false true 12 1 fun x↦agg [c1,c1,c1,c1]),((0:Nat),ah.mk false true 3 1 fun x↦agg [int i64 c.p,ak 3 c.n fun i↦rat (c.k i) 4096,ak 12 c.m fun i↦agg [rat (c.f i).n.x 4096,rat (c.f i).n.y 4096,rat (c.f i).n.z 4096,rat (c.f i).d 4096]])]))):=by kernel_rfl
theorem ajV {c:Cu} {i:Int} {l a:Nat} {g x:Nat→Rat} {h:Pl}:cm T pq [] 60 nw [part Cr [1,1,1,1]] ⟨aA iH (j0 c i l g a),iW c x h,4⟩=
  let c1:Prop:=0<1;some (ag [c1,c1] (ag [c1] (leaf ret [agg [rat h.n.x 536870912,rat h.n.y 536870912,rat h.n.z 536870912,rat h.d 536870912]]))):=by kernel_rfl
theorem IX {k:Nat→Rat} {n i:Nat} (h:i+1<n) (h2:k (i+1)≤k i):ej k n i=ej k n (i+1):=by
 unfold ej;rw[show n-i=(n-(i+1))+1 by omega,qk,if_pos ⟨h,h2⟩]
theorem EU {k:Nat→Rat} {n i:Nat} (h:¬(i+1<n∧k (i+1)≤k i)):ej k n i=i:=by
 unfold ej
 cases n-i with
 |zero=>rfl
 |succ f=>rw[qk,if_neg h]
theorem Yq {n i:Nat} {k:Nat→Rat} (hi:i≤n) (hn:n<2^40) (K:Nat):aB P u9 K [ls k n,.int .i64 i] [] (aK (.int .i64 (ej k n i)) []):=by
 refine gO (r:=aK (.int .i64 (ej k n i)) []) hT (dr ga) hm aa8 rfl (of_decide_eq_true (by kernel_rfl)) rfl [1,0] (i:=0) (y:=part xG [1,0,0,0]) (z:=part xG [1,1]) (by kernel_rfl) (by kernel_rfl) (by kernel_rfl) (f1:=[]) (f2:=[10,22]) (f3:=[]) 60 yX 0
  (fun j:Nat=>Es n j k) (fun _=>[]) (fun j=>j≤n∧ej k n j=ej k n i) (fun j=>j=ej k n i) (fun j=>n-j) (fun _=>⟨⟨_,aiv,?_⟩,fun j hj=>⟨_,aiD,?_⟩,fun j hj=>⟨_,UD,?_⟩⟩) K []
 ·simp only[aa.all,ax]
  exact⟨i,⟨hi,rfl⟩,[],rfl,rfl,rfl,trivial⟩
 ·have e1:((j:Int)+1).toNat=j+1:=by omega
  simp only[aa.all,ax,decide_eq_true_eq,decide_eq_false_iff_not,Int.toNat_natCast,cond_true,e1,IG]
  refine⟨fun h1=>⟨⟨by omega,by omega,by omega,by omega,by omega,by decide,by decide⟩,fun h2=>⟨by omega,j+1,⟨by omega,(IX (by omega) h2).symm.trans hj.2⟩,by dsimp only;omega,[],rfl,rfl,rfl,trivial⟩,fun h2=>⟨rfl,j,?_,[],rfl,rfl,rfl,trivial⟩⟩,fun h1=>⟨⟨by omega,by omega⟩,fun h=>absurd h (by decide),fun _=>⟨rfl,j,?_,[],rfl,rfl,rfl,trivial⟩⟩⟩
  ·exact(EU fun h=>h2 h.2).symm.trans hj.2
  ·exact(EU fun h=>by omega).symm.trans hj.2
 ·subst hj
  simp only[aa.all,ax]
  exact .refl _
def Hw:Spec:=cQ (kC (kL sK) (kC kI kN)) (fun a=>.int .i64 (ej a.1.2 a.1.1 a.2.1.toNat)) fun a=>[0≤a.2.1,a.2.1≤a.1.1,a.1.1<2^40]
theorem LD:∀K args pre r,Hw K args pre=some r→aB P u9 K args pre r:=cU fun⟨⟨n,k⟩,i,_⟩ K hn=>by
 obtain⟨h1,h2,h3⟩:=hn
 have:=Yq (n:=n) (i:=i.toNat) (k:=k) (by dsimp only at*;omega) h3 K
 rw[Int.toNat_of_nonneg h1]at this
 exact this
theorem ua:aY P pq:=dr (aG WI ga)
def xF (c:Cu):Nat→Nat→Rat
 |0=>fun _=>0
 |a+1=>fun q=>fz (c.f q) a
theorem ahT {rl:List (Nat×Nat)} {c:Cu} {a:Nat} {x:Nat→Rat} {q:Nat} (hq:q<c.m):fD rl (.rat (x q) sK) (.rat (nj c a x 0 q) sK):=aE rfl (by unfold nj;rw[if_neg (by omega)])
theorem VJ {rl:List (Nat×Nat)} {c:Cu} {a j:Nat} {x:Nat→Rat} {q:Nat} {v:Rat} (hq:q<c.m) (hv:v=fz (c.f j) a):fD rl (.rat (bif q==j then v else nj c a x j q) (bif q==j then sK else sK)) (.rat (nj c a x (j+1) q) sK):=by
 refine aE rfl ?_
 rw[Bool.cond_self]
 congr 1
 by_cases h:q=j
 ·subst h
  rw[beq_self_eq_true,cond_true,hv];unfold nj;rw[if_pos (by omega)]
 ·rw[beq_eq_false_iff_ne.2 h,cond_false];unfold nj
  by_cases h2:q<j
  ·rw[if_pos (.inl h2),if_pos (.inl (by omega))]
  ·rw[if_neg (by omega),if_neg (by omega)]
theorem ahL {x:Nat→Rat} {m:Nat}:nR (fun i=>.rat (x i) sK) m sK:=Nr (Nat.le_refl _)
theorem four {a:Nat} (ha:a<4):a=0∨a=1∨a=2∨a=3:=by omega
theorem Z0 {c:Cu} {i:Int} {l a j:Nat} {g x:Nat→Rat} {h:Pl} (ha:a<4):aH T pq [23] 60 zU [part nJ [1,0,1,0,0]] ⟨aA zU (Dv c i l g a j),iW c x h,4⟩=
  some (fork (decide ((j:Int)<c.m)) (ag [(0:Int)≤j∧(j:Int).toNat<c.m,0<1] (ag [(0:Int)≤a∧(a:Int)<(4:Nat),0<1,(0:Int)≤j∧(j:Int).toNat<c.m,(j:Int).toNat+0<c.m] (ag [-(2:Int)^63≤(j:Int)+1∧(j:Int)+1<(2:Int)^63]
   (leaf normal ([.int .i64 i,ls g l,.ptr 0 0 3 0 [],.ptr 1 0 12 0 [],.ptr 2 0 12 0 [],.own 3 3 0 c.m,.int .i64 a,.int .i64 a,oy c.f c.m sK,.int .i64 c.m,.int .i64 ((j:Int)+1)],(3,⟨true,true,3,c.m,fun q=>.rat (bif q==(j:Int).toNat+0 then fz (c.f (j:Int).toNat) a else x q) (bif q==(j:Int).toNat+0 then sK else sK)⟩)::[(2,jc h sB),(1,jc ⟨⟨0,0,0⟩,0⟩ 1),(0,pX c sK)]))))) (leaf (exit 2) (Dv c i l g a j,iW c x h))):=by
 rcases four ha with rfl|rfl|rfl|rfl<;>kernel_rfl
theorem Z8 {c:Cu} {i:Int} {l a j:Nat} {g x:Nat→Rat} {h:Pl} (ha:a<4):aH T pq [] 60 iH [part nJ [1,1]] ⟨aA zU (Dv c i l g a j),iW c x h,4⟩=
  some (ag [0<1,0<1,c.m=c.m,bG (fun i=>.rat (c.k i) sK) c.n sK,bG (fun i=>.rat (g i) sK) l sK,nR (fun i=>.rat (x i) sK) c.m sK,(1:Int)≤c.p,c.p≤(6:Int),c.n<2^40,c.m<2^40,-(2:Int)^40<i,i<(2:Int)^40,(0:Int)≤a∧(a:Int)<(4:Nat),0<1]
   (leaf normal (j0 c i l g a,[(3,jX c.m x),(2,⟨false,true,12,1,fun j=>if(j==0)=true then .agg ((cL h sB).kids.set a (.rat (jN c.n c.k c.p.toNat c.m x i l g) sB))else cL h sB⟩),(1,jc ⟨⟨0,0,0⟩,0⟩ 1),(0,pX c sK)]))):=by
 rcases four ha with rfl|rfl|rfl|rfl<;>kernel_rfl
theorem agB {rl:List (Nat×Nat)} {G:Nat→Rat} {a:Nat} (ha:a<4):fD rl (.agg ((cL (nC G a) sB).kids.set a (.rat (G a) sB))) (cL (nC G (a+1)) sB):=by
 rcases four ha with rfl|rfl|rfl|rfl<;>exact aE rfl rfl
theorem Vc {c:Cu} {i:Int} {l a:Nat} {g x:Nat→Rat} {cx:Ctx} {Q:aj→aF→Prop} (ha:a<4) (hk:Kept [] cx) (hp1:1≤c.p) (hp6:c.p≤6) (hn:c.n<2^40) (hm2:c.m<2^40) (hi:-2^40<i) (hi2:i<2^40)
  (hQ:∀s',(∃ρ,Le cx ρ s' ⟨aA iH (j0 c i l g a),iW c (xF c (a+1)) (nC (gr c i l g) (a+1)),4⟩)→aq P cx nw.ntmps (part nT [1,1,1]) s' Q):
  aq P cx nw.ntmps nJ ⟨aA iH (j0 c i l g a),iW c x (nC (gr c i l g) a),4⟩ (inBlock 1 (dz (fun s'=>aq P cx nw.ntmps (part nT [1,1,1]) s' Q) Q)):=by
 refine aq.xl hT ua hm (x:=nJ) [1,0,1] (i:=2) (y:=part nJ [1,0,1,0,0]) (by kernel_rfl) (by kernel_rfl) (by kernel_rfl) hk (f1:=[]) (f2:=[23]) 60 zU 4 (fun j:Nat=>Dv c i l g a j) (fun j=>iW c (nj c a x j) (nC (gr c i l g) a)) (fun j=>j≤c.m) (fun j=>j=c.m) (fun j=>c.m-j) (fun _=>False) ⟨_,aid,?_⟩ (fun j hj=>⟨_,Z0 ha,?_⟩) (fun j s' hj hle=>?_) (fun _ _ h=>h.elim)
 ·simp only[aa.all,ax]
  exact⟨by omega,0,Nat.zero_le _,[(0,0),(1,1),(2,2),(3,3)],rfl,rfl,rfl,bh rfl rfl rfl (fun q hq=>ahT hq) (aJ rfl rfl (aE rfl rfl) (aJ rfl rfl (aE rfl rfl) (aJ rfl rfl (aE rfl rfl) trivial)))⟩
 ·simp only[aa.all,ax,decide_eq_true_eq,decide_eq_false_iff_not,Int.toNat_natCast,Nat.add_zero]
  exact⟨fun h1=>⟨⟨by omega,by omega⟩,⟨by omega,by omega,by omega,by omega⟩,by omega,j+1,by omega,by dsimp only;omega,[(0,0),(1,1),(2,2),(3,3)],rfl,rfl,rfl,bh rfl rfl rfl (fun q hq=>VJ hq rfl) (aJ rfl rfl (aE rfl rfl) (aJ rfl rfl (aE rfl rfl) (aJ rfl rfl (aE rfl rfl) trivial)))⟩,
   fun h1=>⟨rfl,j,by omega,[(0,0),(1,1),(2,2),(3,3)],rfl,rfl,rfl,bh rfl rfl rfl (fun q hq=>aE rfl rfl) (aJ rfl rfl (aE rfl rfl) (aJ rfl rfl (aE rfl rfl) (aJ rfl rfl (aE rfl rfl) trivial)))⟩⟩
 ·subst hj
  simp only[Vp]at hle
  rw[show behind nJ [1,0,1]=[part nJ [1,1]]from by kernel_rfl]
  refine aD.weak rfl hle (aD.bf hT ua hm 60 iH (Z8 ha) (by kernel_rfl) ?_)
  simp only[aa.all,ax]
  refine⟨⟨by omega,by omega,trivial,cM (Nat.le_refl _),cM (Nat.le_refl _),ahL,hp1,hp6,hn,hm2,hi,hi2,by omega,by omega⟩,fun s'' hs''=>hQ s'' (dU.le ⟨[(0,0),(1,1),(2,2),(3,3)],rfl,rfl,rfl,bh rfl rfl rfl (fun q hq=>aE rfl rfl) (aJ rfl rfl (agB ha) (aJ rfl rfl (aE rfl rfl) (aJ rfl rfl (aE rfl rfl) trivial)))⟩ hs'' hk)⟩
theorem agU {c:Cu} {i:Int} {l:Nat} {g:Nat→Rat} (hp1:1≤c.p) (hp6:c.p≤6) (hn:c.n<2^40) (hm2:c.m<2^40) (hi:-2^40<i) (hi2:i<2^40) (K:Nat):aB P uQ K [eB c sK sK,.int .i64 i,ls g l] [] (aK (cL (l8 c i l g) sB) []):=by
 refine iq (r:=aK (cL (l8 c i l g) sB) []) hT Lr rfl (of_decide_eq_true (by kernel_rfl)) rfl (fun _ cx h00=>?_) K []
 have hk:=qv h00
 refine aq.yY hT ua hm [1,1,1,0,1] (i:=0) (y:=nT) (z:=part Cr [1,1,1,1]) (by kernel_rfl) (by kernel_rfl) (by kernel_rfl) Lr.dst hk (f1:=[]) 60 iH 4 (fun a:Nat=>j0 c i l g a) (fun a=>iW c (xF c a) (nC (gr c i l g) a)) (fun a=>a≤4) (fun a=>a=4) (fun a=>4-a) (fun _=>False) ⟨_,V7,?_⟩ (fun a ha=>?_) (fun a ha=>?_) (fun _ _ h=>h.elim)
 ·simp only[aa.all,ax,Int.toNat_natCast]
  exact⟨⟨by omega,by omega⟩,0,by omega,[(0,0),(1,4096),(2,8192),(3,24576)],rfl,rfl,rfl,bh rfl rfl rfl (fun q hq=>.inr ⟨rfl,bS rfl (by decide)⟩) (aJ rfl rfl (.inr ⟨rfl,dn (show eJ [.rat _ _,.rat _ _,.rat _ _,.rat _ _] [.rat _ _,.rat _ _,.rat _ _,.rat _ _]from⟨bS rfl (by decide),bS rfl (by decide),bS rfl (by decide),bS rfl (by decide),trivial⟩)⟩) (aJ rfl rfl (aE rfl rfl) (aJ rfl rfl (aE rfl rfl) trivial)))⟩
 ·have re:∀{x:Nat→Rat} {h:Pl},dU [] (j0 c i l g a,iW c x h) (j0 c i l g a) (iW c x h) 4:=
   fun {x h}=>⟨[(0,0),(1,1),(2,2),(3,3)],rfl,rfl,rfl,bh rfl rfl rfl (fun q hq=>aE rfl rfl) (aJ rfl rfl (aE rfl rfl) (aJ rfl rfl (aE rfl rfl) (aJ rfl rfl (aE rfl rfl) trivial)))⟩
  refine aq.qi hT ua hm (y:=nT) (x1:=nJ) (zb:=part nT [1,1,1]) [1,1,0] (j:=1) (by kernel_rfl) (by kernel_rfl) (by kernel_rfl) (by kernel_rfl) hk (f1:=[17]) 60 iH 4 (fun _:Unit=>j0 c i l g a) (fun _=>iW c (xF c a) (nC (gr c i l g) a)) (fun _=>a<4) ⟨_,af5,?_⟩ (fun _ ha'=>?_)
  ·simp only[aa.all,ax,decide_eq_true_eq,decide_eq_false_iff_not]
   exact⟨fun h1=>⟨(),by omega,re⟩,fun h1 s' hs'=>⟨rfl,a,by omega,re.le hs' hk⟩⟩
  have nx:∀s',(∃ρ,Le cx ρ s' ⟨aA iH (j0 c i l g a),iW c (xF c (a+1)) (nC (gr c i l g) (a+1)),4⟩)→aq P cx nw.ntmps (part nT [1,1,1]) s' (C4 cx iH (fun a:Nat=>j0 c i l g a) (fun a=>iW c (xF c a) (nC (gr c i l g) a)) 4 (fun a=>a≤4) (fun a=>a=4) (fun a=>4-a) 0 (fun s'=>∃v,False∧aX iH s'=some v) a):=fun s' hle=>by
   refine aq.kg hle (aq.bf hT ua hm 60 iH ajW (by kernel_rfl) ?_)
   simp only[aa.all,ax]
   exact⟨by omega,fun s'' hs''=>⟨a+1,by omega,by dsimp only;omega,dU.le ⟨[(0,0),(1,1),(2,2),(3,3)],rfl,rfl,rfl,bh rfl rfl rfl (fun q hq=>aE rfl rfl) (aJ rfl rfl (aE rfl rfl) (aJ rfl rfl (aE rfl rfl) (aJ rfl rfl (aE rfl rfl) trivial)))⟩ hs'' hk⟩⟩
  exact Vc ha' hk hp1 hp6 hn hm2 hi hi2 nx
 ·subst ha
  refine aq.mD ((aD.fin hT ua hm 60 ajV (by kernel_rfl) ?_).mono fun _ _ h=>.inl h)
  simp only[aa.all,ax]
  exact⟨⟨by omega,by omega⟩,by omega,.refl _⟩
def H7:Spec:=cQ (kC (qZ sK sK) (kC kI (kC (kL sK) kN))) (fun a=>cL (l8 a.1 a.2.1 a.2.2.1.1 a.2.2.1.2) sB) fun a=>[1≤a.1.p,a.1.p≤6,a.1.n<2^40,a.1.m<2^40,-2^40<a.2.1,a.2.1<2^40]
theorem NL:∀K args pre r,H7 K args pre=some r→aB P uQ K args pre r:=cU fun⟨c,i,⟨l,g⟩,_⟩ K hn=>agU hn.1 hn.2.1 hn.2.2.1 hn.2.2.2.1 hn.2.2.2.2.1 hn.2.2.2.2.2 K
end Go.Am.B

/- ref02: SameList, Mid, Text; ref08.Greville. -/
namespace Go.Am.B
open Go Go.Am.N AV aa aj IntKind
theorem Sk:aO P wZ lG (au lG):=aQ UH (by kernel_rfl) (by kernel_rfl) (by kernel_rfl)
theorem UP:aO P yJ ki (au ki):=aQ Vk (by kernel_rfl) (by kernel_rfl) (by kernel_rfl)
end Go.Am.B

/- Affine changes of fF: fF.Affine, ref08.Affine; ref08.Mirror. -/
namespace Go.Am.B
open Go Go.Am.N AV aa aj IntKind
def mA (n:Nat) (k:Nat→Rat) (a b:Rat) (i:Nat):Rat:=a+(k i-k 0)/(k (n-1)-k 0)*(b-a)
def hU (n:Nat) (k:Nat→Rat) (i:Nat):Rat:=k 0+k (n-1)-k (n-1-i)
abbrev Dp (m:Nat) (k:Nat→Rat) (s:Nat):ah:=⟨true,true,3,m,fun i=>.rat (k i) s⟩
def Qc (s w:Nat):Spec:=cQ (kC (kL s) kN) (fun a=>bt (hU a.1.1 a.1.2) a.1.1 w) fun a=>[a.1.1<2^40]
end Go.Am.B

/- slices.Insert of one number qi a list of just its capacity; fF.Insert, ref08.Insert. -/
namespace Go.Am.B
open Go Go.Am.N AV aa aj IntKind
theorem Wt {c:Nat} {u v:AV} (hv:v.isAgg=false) (h:bB u v):bB (.bp c u) (.bp c v):=by
 refine⟨rfl,fun M w cs hc=>?_⟩
 cases hc with
 |bp _ h1 h2=>cases h2;exact .bp hv (h.2 _ _ _ h1) .nil
def Wv (s:Nat):Kind (Nat×(Nat→Rat)):=⟨fun v=>match v with
 |.bp c v=>match(kL s).read v with
  |some (a,q)=>some (a,(c=a.1)::q)
  |none=>none
 |_=>none,fun a=>.bp a.1 (bt a.2 a.1 s),fun {v a q} h hq=>by
  split at h
  ·split at h
   ·rename_i h1
    simp only[Option.some.injEq,Prod.mk.injEq]at h
    obtain⟨rfl,rfl⟩:=h
    obtain⟨q1,q2⟩:=Ci.1 hq
    subst q1
    exact Wt rfl ((kL s).ok h1 q2)
   ·simp at h
  ·simp at h⟩
abbrev B0:FuncId:=MO
noncomputable abbrev BF:Func:=QU
def fG (k:Nat→Rat) (t:Rat):Nat→Nat
 |0=>0
 |n+1=>if fG k t n=n∧k n≤t then n+1 else fG k t n
def gA (k:Nat→Rat) (t:Rat) (p j:Nat):Rat:=if j<p then k j else if j=p then t else k (j-1)
abbrev wQ:List Nat:=[3,9,10,11]
abbrev ER (n:Nat) (k:Nat→Rat) (s i:Nat):List AV:=[.bp n (.own 0 3 0 i),bt k n s,.int .i64 n,.int .i64 i]
abbrev CI:aR:=cG::fI
abbrev xQ:List Nat:=[0,3,5]
abbrev EN (n:Nat) (k:Nat→Rat) (s i:Nat):List AV:=[bt k n s,.ptr 0 0 3 0 [],.int .i64 i]
noncomputable abbrev xq:Code:=au xm
def J8 (w:Nat):Spec:=cQ (kC (Wv w) (kC kI (kC (kL w) kN))) (fun a=>bt (gA a.1.2 (a.2.2.1.2 0) a.2.1.toNat) (a.1.1+1) w) fun a=>[0≤a.2.1,a.2.1≤a.1.1,a.2.2.1.1=1,a.1.1<2^40]
def NT (s w:Nat):Spec:=cQ (kC (kL s) kN) (fun a=>.bp a.1.1 (bt a.1.2 a.1.1 w)) fun a=>[a.1.1<2^40]
def Bw (s w:Nat):aR:=cG::(ou,NT s w)::(B0,J8 w)::fI
theorem Wn:aO P B0 BF (au BF):=aQ Uv (by kernel_rfl) (by kernel_rfl) (by kernel_rfl)
theorem Zm:aO P xo xm (au xm):=aQ Uk (by kernel_rfl) (by kernel_rfl) (by kernel_rfl)
theorem Yu {n i s:Nat} {k:Nat→Rat} {t:Rat}:bF T [cG] [22,100031] 60 BF (au BF) ⟨aN 0 [.bp n (bt k n s),.int .i64 i,bt (fun _=>t) 1 s],[],0⟩=
  let c11:Nat:=Int.toNat (0:Int);let c9:Int:=(↑n:Int);let c7:Int:=(2:Int)^63;let c4:Int:=(↑i:Int);let c14:Nat:=c4.toNat-c11;let c13:Prop:=(0:Int)≤c4;let c12:Nat:=0+c4.toNat;let c3:Int:=c9+(↑(1:Nat):Int);let c2:Int:=c4+(↑(1:Nat):Int);let c10:Nat:=0+c2.toNat;let c1:Nat:=c14+(c3-c4).toNat;let c8:Int:=(↑c1:Int);let c6:Nat:=c12+Min.min 1 (c8.toNat-c4.toNat);let c5:Nat:=c10+Min.min (c9.toNat-c4.toNat) (c8.toNat-c2.toNat);some (ag [c13∧c4≤c9∧c9≤c9] (fork (c4==c9) (ag [n<n+1∧(n+1)*((56:Nat)+1)*2≤2^47] (leaf ret [ak 3 (n+1) fun i↦if i+0<n then rat (k (i+0)) s else rat t s])) (ag [-c7≤c3∧c3<c7] (ag [decide (c3>c9)=true] (ag [(0:Int)≤(0:Int)∧c13∧c4≤c9,-c7≤c3∧c3<c7,-c7≤c3-c4∧c3-c4<c7,(0:Int)<c3-c4∧n-c11<c1∧c1*((56:Nat)+1)*2≤2^47] (ag [c13∧c4≤c8∧c8≤c8∧c8≤c8] (ag [-c7≤c2∧c2<c7,(0:Int)≤c2∧c2≤c8∧c8≤c8∧c8≤c8,c13∧c4≤c9∧c9≤c9] (leaf ret [ak 3 c1 fun i↦if c10≤i+0∧i+0<c5 then rat (k (i+0-c10+c4.toNat)) s else if c12≤i+0∧i+0<c6 then rat t s else if i+0<c14 then rat (k (i+0+c11)) s else rat 0 1])))))))):=by kernel_rfl
theorem R6 {n s:Nat} {k:Nat→Rat}:aH T CI [] 60 wQ (before mE [1,1,0,1]) ⟨aN 0 [bt k n s],[],0⟩=
  let c1:Int:=(↑n:Int);some (ag [(0:Int)≤(0:Int)∧(0:Int)≤c1∧c1≤(2:Int)^47∧c1*(↑(56:Nat):Int)≤(2:Int)^47] (leaf normal ([bp c1.toNat (own 12288 3 0 0),ak 3 n fun i↦rat (k i) s,int i64 c1,int i64 (0:Int)],[((12288:Nat),ah.mk true true 3 0 fun x↦rat 0 1)]))):=by kernel_rfl
theorem adB {n i s w:Nat} {k x:Nat→Rat}:aH T CI [12] 60 wQ [part mE [1,1,0,1,0,0]] ⟨aA wQ (ER n k s i),[(0,Dp i x w)],1⟩=
  let c5:Int:=(↑n:Int);let c3:Nat:=i+1;let c2:AV:=ak 3 n fun i↦rat (k i) s;let c1:Int:=(↑i:Int);let c4:Int:=c1+(1:Int);some (fork (decide (c1<c5)) (ag [(0:Int)≤c1∧c1.toNat<n,(0:Nat)<1] (ag [(0:Nat)<1,s<2^42,(1:Nat)<2^42,(1:Nat)*3≤2^24,c3≤n,c3*((56:Nat)+1)*2≤2^47] (ag [-(2:Int)^63≤c4∧c4<(2:Int)^63] (leaf normal ([bp n (own 40961 3 0 c3),c2,int i64 c5,int i64 c4],[((40961:Nat),ah.mk true true 3 c3 fun i_1↦if i_1<i then rat (x i_1) w else nth [rat (k c1.toNat+0) (s+1+1)] (rat 0 1) (i_1-i+0))]))))) (leaf (exit 0) ([bp n (own 0 3 0 i),c2,int i64 c5,int i64 c1],[((0:Nat),ah.mk true true 3 i fun i↦rat (x i) w)]))):=by kernel_rfl
theorem Wi {n i s w:Nat} {k x:Nat→Rat}:cm T CI [] 60 za [part mE [1,1,1]] ⟨aA wQ (ER n k s i),[(0,Dp i x w)],1⟩=
  some (leaf ret [bp n (ak 3 i fun i↦rat (x (i+0)) w)]):=by kernel_rfl
theorem aku {n s r w:Nat} {k:Nat→Rat} {t:Rat}:aH T (Bw s w) [] 60 xQ (before xq [1,1,0]) ⟨aN 0 [bt k n s,.rat t r],[],0⟩=
  some (leaf normal ([ak 3 n fun i↦rat (k i) s,ptr 0 0 (bn (rat t r)).size 0 [],int i64 (0:Int)],[((0:Nat),ah.mk false true (bn (rat t r)).size 1 fun x↦rat t r)])):=by kernel_rfl
theorem adQ {n i s r w:Nat} {k:Nat→Rat} {t:Rat}:aH T (Bw s w) [10,18] 60 xQ [part xq [1,1,0,0,0]] ⟨aA xQ (EN n k s i),[(0,tP t r)],1⟩=
  let c7:AV:=ak 3 n fun i↦rat (k i) s;let c5:AV:=ptr 0 0 3 0 [];let c4:Nat×ah:=((0:Nat),ah.mk false true 3 1 fun x↦rat t r);let c3:Int:=(↑i:Int);let c8:Int:=c3+(1:Int);let c6:Bool:=decide (c3<(↑n:Int));let c2:aa (List AV×aC):=leaf (exit 0) ([c7,c5,int i64 c3],[c4]);let c1:aa (List AV×aC):=ag [-(2:Int)^63≤c8∧c8<(2:Int)^63] (leaf normal ([c7,c5,int i64 c8],[c4]));some (fork c6 (ag [c6=true,(0:Int)≤c3∧c3.toNat<n,(0:Nat)<1,s<2^42,r<2^42] (fork (bif true then decide (fe (k c3.toNat) t≤(0:Int))else false) c1 c2)) (ag [c6=false] (fork false c1 c2))):=by kernel_rfl
theorem Y7 {n i s r w:Nat} {k:Nat→Rat} {t:Rat}:cm T (Bw s w) [] 60 xm [part xq [1,1,1]] ⟨aA xQ (EN n k s i),[(0,tP t r)],1⟩=
  let c3:AV:=rat 0 1;let c2:Prop:=n<2^40;let c1:AV:=rat (t+0) (r+1+1);some (ag [bG (fun i↦rat (k i) s) n s,c2,(0:Nat)<1,r<2^42,(1:Nat)<2^42,(1:Nat)*3≤2^24,n=n,bG (fun i↦rat (aS (rat (k i) s)) w) n w,bG (fun i↦nth [c1] c3 (i+0)) 1 w,(0:Int)≤(↑i:Int),(↑i:Int)≤(↑n:Int),(1:Nat)=1,c2] (leaf ret [ak 3 (n+1) fun i_1↦rat (gA (fun i↦aS (rat (aS (rat (k i) s)) w)) (aS (nth [c1] c3 ((0:Nat)+0))) (↑i:Int).toNat i_1) w])):=by kernel_rfl
theorem EJ {Γ:aR} (h:aY P Γ):aY P (cG::Γ):=aG (fun _ _ _ _ h=>nomatch h) h
theorem Zr {a b:Rat}:fe a b≤(0:Int)↔a≤b:=by
 have:=@zF a b
 constructor
 ·intro h
  exact Rat.not_lt.1 fun h'=>by have:=zF.2 h';omega
 ·intro h
  have:¬fe a b>0:=fun h'=>Rat.not_lt.2 h (zF.1 h')
  omega
theorem Ji {k:Nat→Rat} {t:Rat} {n:Nat} (h:fG k t n=n) (h2:k n≤t):fG k t (n+1)=n+1:=by unfold fG;rw[if_pos ⟨h,h2⟩]
theorem GH {k:Nat→Rat} {t:Rat} {i:Nat} (h:fG k t i=i) (h2:t<k i):∀{n:Nat},i≤n→fG k t n=i
 |0,hn=>by
    have:i=0:=by omega
    subst this;rfl
 |n+1,hn=>by
  by_cases he:i=n+1
  ·subst he;exact h
  ·have ih:=GH h h2 (n:=n) (by omega)
   unfold fG
   rw[if_neg,ih]
   rintro⟨g1,g2⟩
   have:i=n:=by omega
   subst this
   exact absurd h2 (Rat.not_lt.2 g2)
theorem aac {n i s:Nat} {k:Nat→Rat} {t:Rat} (hi:i≤n) (hn:n<2^40) (K:Nat):aB P B0 K [.bp n (bt k n s),.int .i64 i,bt (fun _=>t) 1 s] [] (aK (bt (gA k t i) (n+1) s) []):=by
 refine bJ (r:=aK (bt (gA k t i) (n+1) s) []) hT (EJ bk) hm Wn rfl (of_decide_eq_true (by kernel_rfl)) rfl 60 Yu (fun _=>?_) K []
 simp only[aa.all,ax,decide_eq_true_eq,decide_eq_false_iff_not]
 have w1:((1:Nat):Int)=1:=rfl
 simp only[w1,Int.toNat_natCast,Int.toNat_zero,Nat.sub_zero,Nat.zero_add,Nat.add_zero,beq_iff_eq,beq_eq_false_iff_ne,ne_eq,Int.ofNat_inj]
 refine⟨by omega,fun h=>⟨by omega,mN fun j hj=>dc ?_⟩,fun h=>?_⟩
 ·subst h
  unfold gA
  by_cases h1:j<i
  ·rw[if_pos h1,if_pos h1]
  ·rw[if_neg h1,if_neg h1,if_pos (by omega)]
 ·have eN:i+((n:Int)+1-i).toNat=n+1:=by omega
  have e2:((i:Int)+1).toNat=i+1:=by omega
  simp only[eN,e2]
  refine⟨by omega,by omega,by omega,by omega,by omega,mN fun j hj=>dc ?_⟩
  unfold gA
  by_cases h1:j<i
  ·rw[if_neg (by omega),if_neg (by omega),if_pos h1,if_pos h1]
  ·by_cases h2:j=i
   ·rw[if_neg (by omega),if_pos (by omega),if_neg h1,if_pos h2]
   ·rw[if_pos (by omega),if_neg h1,if_neg h2,show j-(i+1)+i=j-1 by omega]
theorem YK:aY P CI:=EJ ga
theorem TU {n s w:Nat} {k:Nat→Rat} (h:s+2≤w) (hw:w<2^40) (hn:n<2^40) (K:Nat):aB P ou K [bt k n s] [] (aK (.bp n (bt k n w)) []):=by
 refine gO (r:=aK (.bp n (bt k n w)) []) hT YK hm Ek rfl (of_decide_eq_true (by kernel_rfl)) rfl [1,1,0,1] (i:=0) (y:=part mE [1,1,0,1,0,0]) (z:=part mE [1,1,1]) (by kernel_rfl) (by kernel_rfl) (by kernel_rfl) (f1:=[]) (f2:=[12]) (f3:=[]) 60 wQ 1
  (fun i:Nat=>ER n k s i) (fun i=>[(0,Dp i k w)]) (fun i=>i≤n) (fun i=>i=n) (fun i=>n-i) (fun _=>⟨⟨_,R6,?_⟩,fun i hi=>⟨_,adB,?_⟩,fun i hi=>⟨_,Wi,?_⟩⟩) K []
 ·simp only[aa.all,ax]
  exact⟨by omega,0,Nat.zero_le _,[(0,12288)],rfl,by rw[Int.toNat_natCast];rfl,rfl,bh rfl rfl rfl (fun j hj=>absurd hj (Nat.not_lt_zero j)) trivial⟩
 ·simp only[aa.all,ax,decide_eq_true_eq,decide_eq_false_iff_not,Int.toNat_natCast,Nat.add_zero]
  exact⟨fun h1=>⟨by omega,by omega,by omega,i+1,by omega,by dsimp only;omega,[(0,40961)],rfl,rfl,rfl,bh rfl rfl rfl (fun j hj=>tc (fun _ _=>rfl) (Rat.add_zero _) (Nat.le_refl _) (by omega) hj) trivial⟩,
   fun h1=>⟨rfl,i,by omega,[(0,0)],rfl,rfl,rfl,bh rfl rfl rfl (fun _ _=>aE rfl rfl) trivial⟩⟩
 ·subst hi
  simp only[aa.all,ax]
  exact .refl _
theorem ab0 {s w:Nat} (h:s+2≤w) (hw:w<2^40):∀K args pre r,NT s w K args pre=some r→aB P ou K args pre r:=cU fun⟨⟨n,k⟩,_⟩ K hn=>TU h hw hn K
theorem Xs {w:Nat}:∀K args pre r,J8 w K args pre=some r→aB P B0 K args pre r:=cU fun⟨⟨n,k⟩,i,⟨m,g⟩,_⟩ K hn=>by
 obtain⟨h1,h2,h3,h4⟩:=hn
 simp only at h1 h2 h3 h4
 subst h3
 have:=gb (aac (k:=k) (t:=g 0) (s:=w) (i:=i.toNat) (n:=n) (by omega) h4 K) (args:=[.bp n (bt k n w),.int .i64 i,bt g 1 w]) rfl ⟨.refl _,bw (by omega),mN fun j hj=>dc (by rw[Nat.lt_one_iff.1 hj]),trivial⟩ []
 exact this
theorem Yl {s w:Nat} (h:s+2≤w) (hw:w<2^40):aY P (Bw s w):=EJ (aG (ab0 h hw) (aG Xs ga))
theorem acS {n s r w:Nat} {k:Nat→Rat} {t:Rat} (h:s+2≤w) (h2:r+2≤w) (hw:w<2^40) (hn:n<2^40) (K:Nat):aB P xo K [bt k n s,.rat t r] [] (aK (bt (gA k t (fG k t n)) (n+1) w) []):=by
 refine gO (r:=aK (bt (gA k t (fG k t n)) (n+1) w) []) hT (Yl h hw) hm Zm rfl (of_decide_eq_true (by kernel_rfl)) rfl [1,1,0] (i:=0) (y:=part xq [1,1,0,0,0]) (z:=part xq [1,1,1]) (by kernel_rfl) (by kernel_rfl) (by kernel_rfl) (f1:=[]) (f2:=[10,18]) (f3:=[]) 60 xQ 1
  (fun i:Nat=>EN n k s i) (fun _=>[(0,tP t r)]) (fun i=>i≤n∧fG k t i=i) (fun i=>i≤n∧i=fG k t n) (fun i=>n-i) (fun _=>⟨⟨_,aku,?_⟩,fun i hi=>⟨_,adQ,?_⟩,fun i hi=>⟨_,Y7,?_⟩⟩) K []
 ·simp only[aa.all,ax]
  exact⟨0,⟨Nat.zero_le _,rfl⟩,[(0,0)],rfl,rfl,rfl,aJ rfl rfl (aE rfl rfl) trivial⟩
 ·simp only[aa.all,ax,decide_eq_true_eq,decide_eq_false_iff_not,Int.toNat_natCast]
  simp only[cond_true,decide_eq_true_eq,decide_eq_false_iff_not,Zr]
  exact⟨fun h1=>⟨⟨h1,by omega,by omega,by omega,by omega⟩,fun h2=>⟨by omega,i+1,⟨by omega,Ji hi.2 h2⟩,by dsimp only;omega,[(0,0)],rfl,rfl,rfl,aJ rfl rfl (aE rfl rfl) trivial⟩,
    fun h2=>⟨rfl,i,⟨by omega,(GH hi.2 (Rat.not_le.1 h2) (by omega)).symm⟩,[(0,0)],rfl,rfl,rfl,aJ rfl rfl (aE rfl rfl) trivial⟩⟩,
   fun h1=>⟨h1,fun h=>absurd h (by decide),fun _=>⟨rfl,i,⟨hi.1,by rw[show n=i by omega];exact hi.2.symm⟩,[(0,0)],rfl,rfl,rfl,aJ rfl rfl (aE rfl rfl) trivial⟩⟩⟩
 ·obtain⟨hi,rfl⟩:=hi
  simp only[aa.all,ax]
  refine⟨⟨cM (Nat.le_refl _),by omega,by omega,by omega,by omega,by omega,trivial,cM (Nat.le_refl _),fun j hj=>?_,by omega,by omega,trivial,by omega⟩,mN fun j hj=>dc ?_⟩
  ·rw[Nat.lt_one_iff.1 hj];exact fC (by omega)
  ·show AV.rat (gA k (t+0) ((fG k t n:Nat):Int).toNat j) w=_
   rw[Rat.add_zero,Int.toNat_natCast]
def Lg (s w:Nat):Spec:=cQ (kC (kL s) (kC (kO s) kN)) (fun a=>bt (gA a.1.2 a.2.1 (fG a.1.2 a.2.1 a.1.1)) (a.1.1+1) w) fun a=>[a.1.1<2^40]
theorem afl {s w:Nat} (h:s+2≤w) (hw:w<2^40):∀K args pre r,Lg s w K args pre=some r→aB P xo K args pre r:=cU fun⟨⟨n,k⟩,t,_⟩ K hn=>acS h h hw hn K
end Go.Am.B

/- shapes.ints, ref14.ints. -/
namespace Go.Am.B
open Go Go.Am.N AV aa aj IntKind
end Go.Am.B

/- spline.Copied, shapes.clamped, shapes.Revolve. -/
namespace Go.Am.B
open Go Go.Am.N AV aa aj IntKind
theorem Zz:aO P rz AU (au AU):=aQ X5 (by kernel_rfl) (by kernel_rfl) (by kernel_rfl)
abbrev CB (y m:Nat) (k:Nat→Rat):ah:=⟨true,true,3,m,fun i=>.rat (k i) y⟩
noncomputable abbrev zq:Code:=au AU
abbrev vr:List Nat:=[3,9,10,11]
abbrev HL (x n:Nat) (k:Nat→Rat) (i:Nat):List AV:=[.own 0 3 0 i,bt k n x,.int .i64 n,.int .i64 i]
noncomputable def B1:aR:=nG::fI
theorem agL {x n:Nat} {k:Nat→Rat}:aH T B1 [] 60 vr (before zq [1,1,0,1]) ⟨aN 0 [bt k n x],[],0⟩=
  let c1:Int:=(↑n:Int);some (ag [(0:Int)≤(0:Int)∧(0:Int)≤c1∧c1≤(2:Int)^47∧c1*(↑(56:Nat):Int)≤(2:Int)^47] (leaf normal ([own 12288 3 0 0,ak 3 n fun i↦rat (k i) x,int i64 c1,int i64 (0:Int)],[((12288:Nat),ah.mk true true 3 0 fun x↦rat 0 1)]))):=by kernel_rfl
theorem S2 {x y n i:Nat} {k:Nat→Rat}:aH T B1 [12] 60 vr [part zq [1,1,0,1,0,0]] ⟨aA vr (HL x n k i),[(0,CB y i k)],1⟩=
  let c4:Int:=(↑n:Int);let c2:AV:=ak 3 n fun i↦rat (k i) x;let c1:Int:=(↑i:Int);let c3:Int:=c1+(1:Int);some (fork (decide (c1<c4)) (ag [(0:Int)≤c1∧c1.toNat<n,(0:Nat)<1] (ag [(0:Nat)<1,x<2^42,(1:Nat)<2^42,(1:Nat)*3≤2^24,(i+1)*((56:Nat)+1)*2≤2^47] (ag [-(2:Int)^63≤c3∧c3<(2:Int)^63] (leaf normal ([own 40961 3 0 (i+1),c2,int i64 c4,int i64 c3],[((40961:Nat),ah.mk true true 3 (i+1) fun i_1↦if i_1<i then rat (k i_1) y else nth [rat (k c1.toNat+0) (x+1+1)] (rat 0 1) (i_1-i+0))]))))) (leaf (exit 0) ([own 0 3 0 i,c2,int i64 c4,int i64 c1],[((0:Nat),ah.mk true true 3 i fun i↦rat (k i) y)]))):=by kernel_rfl
theorem abb {x y n i:Nat} {k:Nat→Rat}:cm T B1 [] 60 AU [part zq [1,1,1]] ⟨aA vr (HL x n k i),[(0,CB y i k)],1⟩=
  some (leaf ret [ak 3 i fun i↦rat (k (i+0)) y]):=by kernel_rfl
theorem acs:aY P B1:=dr ga
theorem abg {x y n:Nat} {k:Nat→Rat} (hxy:x+10≤y) (hy:y<2^40) (hn:n<2^40) (K:Nat):aB P rz K [bt k n x] [] (aK (bt k n y) []):=by
 refine gO (r:=aK (bt k n y) []) hT acs hm Zz rfl (of_decide_eq_true (by kernel_rfl)) rfl [1,1,0,1] (i:=0) (y:=part zq [1,1,0,1,0,0]) (z:=part zq [1,1,1]) (by kernel_rfl) (by kernel_rfl) (by kernel_rfl) (f1:=[]) (f2:=[12]) (f3:=[]) 60 vr 1
  (fun i:Nat=>HL x n k i) (fun i=>[(0,CB y i k)]) (fun i=>i≤n) (fun i=>i=n) (fun i=>n-i) (fun _=>⟨⟨_,agL,?_⟩,fun i hi=>⟨_,S2,?_⟩,fun i hi=>⟨_,abb,?_⟩⟩) K []
 ·simp only[aa.all,ax]
  exact⟨by omega,0,Nat.zero_le _,[(0,12288)],rfl,rfl,rfl,bh rfl rfl rfl (fun i hi=>absurd hi (Nat.not_lt_zero i)) trivial⟩
 ·simp only[aa.all,ax,decide_eq_true_eq,decide_eq_false_iff_not,Int.toNat_natCast,Nat.add_zero]
  exact⟨fun h2=>⟨by omega,by omega,by omega,i+1,by omega,by dsimp only;omega,[(0,40961)],rfl,rfl,rfl,bh rfl rfl rfl (fun j hj=>tc (fun _ _=>rfl) (Rat.add_zero _) (Nat.le_refl _) (by omega) hj) trivial⟩,fun h2=>⟨rfl,i,by omega,[(0,0)],rfl,rfl,rfl,bh rfl rfl rfl (fun j hj=>aE rfl rfl) trivial⟩⟩
 ·subst hi
  simp only[aa.all,ax]
  exact p5 rfl fun j hj=>rfl
def Bs (x y:Nat):Spec:=cQ (kC (kL x) kN) (fun a=>bt a.1.2 a.1.1 y) fun a=>[x+10≤y,y<2^40,a.1.1<2^40]
theorem HM (x y:Nat):∀K args pre r,Bs x y K args pre=some r→aB P rz K args pre r:=cU fun⟨⟨n,k⟩,_⟩ K hn=>abg hn.1 hn.2.1 hn.2.2 K
end Go.Am.B
