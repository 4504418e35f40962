/- Lifts of the formal degree, sums, and 0 in Bernstein's form. -/
import Derived.Test.YtolopdkjjlfgjaaGreatY39
import Derived.Test.YtolopdkjjlfgjaaGreatY38
import Derived.Test.YtolopdkjjlfgjaaGreatZ2
import Derived.Test.YtolopdkjjlfgjaaGreatY37
set_option linter.unusedVariables false
namespace Go.Am
def MT (p:PP):Prop:=∀i,i<p.1->p.2 i=0
theorem Cv {p:Nat->Rat} {m:Nat} (h:∀k,k<=m->ek p k 0=0):∀i k,k+i<=m->ek p k i=0
 |0,k,hk=>h k hk
 |i+1,k,hk=>by
  have h1:=Cv h i (k+1) aa
  have h2:=Cv h i k aa
  rw[ek]at h1;grind
theorem acK {p:PP} (h:∀t,er p t=0):MT p:=by
 obtain⟨m,p⟩:=p
 intro i hi
 have hi:i<m:=hi
 obtain⟨m,rfl⟩:∃x,m=x+1:=⟨m-1,aa⟩
 have h1:∀k,k<=m->ek p k 0=0:=fun k hk=>by
  have e:gA (m+1) p k=0:=JT (n:=m+1) (l:=fun _=>0) (fun t=>by
   rw[Ea]
   rw[show cs m p t=0 from h t]
   exact(mC fun i _=>Rat.zero_mul _).symm) k aa
  unfold gA at e
  rw[Nat.add_sub_cancel]at e
  rcases Rat.mul_eq_zero.mp e with e|e
  ·exact absurd e (z8 hk)
  ·exact e
 exact Cv h1 i 0 aa
theorem acH {p:PP} (h1:1<=p.1) (h:MT p) (t:Rat):er p t=0:=by
 unfold er
 rw[<-uh]
 exact mC fun i hi=>by dsimp only;rw[h i aa,Rat.mul_zero,Rat.zero_mul]
end Go.Am
namespace Go.Am.B
open Go Go.Am.N AV af ak IntKind Proofs.Tryz
def Ly (a b t:Rat×Nat):AV:=.rat (a.1+(b.1-a.1)*t.1) (a.2+((b.2+a.2+1)+t.2)+1)
def SJ (a b t:Rat×Nat):List Prop:=[a.2<2^40,b.2+a.2+1<2^40,b.2+a.2+1+t.2<2^40]
noncomputable abbrev wg:Code:=aG f21
abbrev yp:List Nat:=[0,2,3]
abbrev FR (m:Nat) (p:Nat->Rat) (i:Nat):List AV:=[bD p m ah,.bool false,.int .i64 i]
def ve (p:PP):Bool:=decide (∀i,i<p.1->p.2 i=0)
def HD:Spec:=fu (kC (kL ah) kN) (fun a=>.bool (ve a.1)) fun a=>[a.1.1<2^40]
theorem abc:bu 139 f139:=bz func139
theorem abA {a b t:Rat} {n m r:Nat}:cq T nr [] 60 f139 (aG f139) ⟨aV 0 [.rat a n,.rat b m,.rat t r],[],0⟩=
  let c3:Nat:=m+n+1;let c2:Prop:=0<1;let c1:Nat:=2^41;some (aj [c2,c2,c2,m<c1,n<c1,c2,c3<c1,r<c1,n<c1,c3+r<c1,c2] (aj [c2] (leaf ret [rat (a+(b-a)*t) (n+(c3+r)+1)]))):=ag
theorem U5:bu 21 f21:=bz func21
theorem Tj {m:Nat} {p:Nat->Rat}:aH T zM [] 60 yp (before wg [1,0,1]) ⟨aV 0 [bD p m ah],[],0⟩=
  some (leaf normal ([aq 3 m fun i=>rat (p i) ah,AV.bool false,int i64 0],[])):=ag
theorem Yo {m i:Nat} {p:Nat->Rat}:aH T zM [7,15] 60 yp [part wg [1,0,1,0,0]] ⟨aE yp (FR m p i),[],0⟩=
  let c2:Int:=(↑i:Int);let c1:AV:=aq 3 m fun i=>rat (p i) ah;let c4:Int:=c2+1;let c3:List AV:=[c1,AV.bool false,int i64 c2];some (fork (decide (c2<(↑m:Int))) (aj [(0:Int)<=c2/\c2.toNat<m,ah<2^41] (fork (bC (p c2.toNat)!=0) (leaf ret (c3,[])) (aj [-(2:Int)^63<=c4/\c4<2^63] (leaf normal ([c1,AV.bool false,int i64 c4],[]))))) (leaf (exit 0) (c3,[]))):=ag
theorem ae4 {m i:Nat} {p:Nat->Rat}:dA T zM [] 60 f21 [part wg [1,1]] ⟨aE yp (FR m p i),[],0⟩=
  some (leaf ret [AV.bool true]):=ag
theorem ab1 {p:PP} (h1:p.1<2^40) (K:Nat):aQ P 21 K [aX p] [] (aM (.bool (ve p)) []):=by
 have hW:=dI
 refine nK (r:=aM (.bool (ve p)) []) hT YA hm U5 rfl bp rfl [1,0,1] (i:=0) (y:=part wg [1,0,1,0,0]) (z:=part wg [1,1]) ag ag ag (f1:=[]) (f2:=[7,15]) (f3:=[]) 60 yp 0
  (fun i:Nat=>FR p.1 p.2 i) (fun _=>[]) (fun i=>i<=p.1/\∀j,j<i->p.2 j=0) (fun i=>i=p.1/\∀j,j<i->p.2 j=0) (fun i=>p.1-i) (fun _=>⟨⟨_,Tj,?_⟩,fun i ⟨i1,i2⟩=>⟨_,Yo,?_⟩,fun i hi=>⟨_,ae4,?_⟩⟩) K []
 ·simp only[af.all,aA]
  exact⟨0,⟨Nat.zero_le _,fun j hj=>absurd hj (Nat.not_lt_zero j)⟩,.vals rfl⟩
 ·simp only[af.all,aA,bK,bO,bE,bne_iff_ne,ne_eq,bne_eq_false_iff_eq]
  refine⟨fun h=>⟨⟨aa,aa⟩,fun hb=>⟨[.bool false],ag,kI (decide_eq_false fun hh=>hb (by rw[hh i aa];rfl)).symm⟩,fun hb=>⟨aa,i+1,⟨aa,fun j hj=>?_⟩,by dsimp only;omega,.vals rfl⟩⟩,fun h=>⟨rfl,i,⟨aa,i2⟩,.vals rfl⟩⟩
  by_cases hj2:j=i
  ·subst hj2;exact of_decide_eq_true (rV.symm.trans (by rw[hb];rfl))
  ·exact i2 j aa
 ·simp only[af.all,aA]
  exact kI (decide_eq_true fun j hj=>hi.2 j aa).symm
theorem TD:bA P HD 21:=fF fun⟨_,_⟩ K hn=>ab1 hn K
end Go.Am.B
