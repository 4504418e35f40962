/- ref06.SameRoots; both ways to isolate roots find the same. -/
import Derived.Test.YtolopdkjjlfgjaaGreatY41
set_option linter.unusedVariables false
namespace Go.Am.B
open Go Go.Am.N AV ag aq IntKind Proofs.Tryz
abbrev eP (a:(Rat×Rat)×Int):AV:=.agg [dA a.1.1 a.1.2 af,.int .i64 a.2]
def pU:AV->(Rat×Rat)×Int
 |.agg [.agg [x,y],.int .i64 t]=>((aM x,aM y),t)
 |_=>((0,0),0)
def qG:Kind (Nat×(Nat->(Rat×Rat)×Int)):=⟨fun v=>match v with
 |.ak 7 n f=>some ((n,fun i=>pU (f i)),[∀i,i<n->aW (f i) (eP (pU (f i)))])
 |_=>none,fun a=>.ak 7 a.1 fun i=>eP (a.2 i),fun {v a q} h hq=>by
  split at h
  ·simp only[ay,Prod.mk.injEq]at h
   obtain⟨rfl,rfl⟩:=h
   exact iH hq
  ·simp at h⟩
def yB (a b:Rat×Rat):Bool:=decide (a.1=b.1/\a.2=b.2)
def Ob:Spec:=dD (kC (p8 af) (kC (p8 af) kN)) (fun a=>.bool (yB a.1 a.2.1)) fun _=>[]
def Dq:bk:=nG::(79,Ob)::[]
noncomputable abbrev Ao:Code:=aH f20
abbrev Ay:List Nat:=[0,1,4,5]
abbrev E3 (n m:Nat) (f g:Nat->(Rat×Rat)×Int) (i:Nat):List AV:=[qG.make (n,f),qG.make (m,g),.bool false,.int .i64 i]
def vD (n:Nat) (f:Nat->(Rat×Rat)×Int) (m:Nat) (g:Nat->(Rat×Rat)×Int):Bool:=decide (n=m/\∀i,i<n->f i=g i)
def LB:Spec:=dD (kC qG (kC qG kN)) (fun a=>.bool (vD a.1.1 a.1.2 a.2.1.1 a.2.1.2)) fun a=>[a.1.1<2^40,a.2.1.1<2^40]
theorem afi:bf 79 f79:=bg func79
theorem Yk {x y z w:Rat}:b9 T gN [10] 60 f79 (aH f79) ⟨aU 0 [dA x y af,dA z w af],[],0⟩=
  let c3:Bool:=decide (x=z);let c2:Prop:=0<1;let c1:Prop:=af<2^41;some (fork c3 (aj [c2,c2,c1,c1,c3=true,c2,c2,c1,c1] (leaf ret [AV.bool (bif true then decide (y=w)else false)])) (aj [c2,c2,c1,c1,c3=false] (leaf ret [AV.bool false]))):=ah
theorem XT:bf 20 f20:=bg func20
theorem Ya {n m:Nat} {f g:Nat->(Rat×Rat)×Int}:aI T Dq [10] 60 Ay (before Ao [1,1,0,1]) ⟨aU 0 [qG.make (n,f),qG.make (m,g)],[],0⟩=
  let c2:AV:=ak 7 m fun i=>agg [agg [rat (g i).fst.fst af,rat (g i).fst.snd af],int i64 (g i).snd];let c1:AV:=ak 7 n fun i=>agg [agg [rat (f i).fst.fst af,rat (f i).fst.snd af],int i64 (f i).snd];some (fork ((↑n:Int)!=(↑m:Int)) (leaf ret ([c1,c2,AV.bool false,tuple []],[])) (leaf normal ([c1,c2,AV.bool false,int i64 0],[]))):=ah
theorem Z7 {n m i:Nat} {f g:Nat->(Rat×Rat)×Int}:aI T Dq [14,28,41] 60 Ay [part Ao [1,1,0,1,0,0]] ⟨aC Ay (E3 n m f g i),[],0⟩=
  let c7:Int:=(↑i:Int);let c5:AV:=ak 7 m fun i=>agg [agg [rat (g i).fst.fst af,rat (g i).fst.snd af],int i64 (g i).snd];let c4:AV:=ak 7 n fun i=>agg [agg [rat (f i).fst.fst af,rat (f i).fst.snd af],int i64 (f i).snd];let c13:Int:=c7+1;let c6:Prop:=(0:Int)<=c7;let c3:Nat:=c7.toNat;let c1:List AV×aE:=([c4,c5,AV.bool false,int i64 c7],[]);let c12:AV:=rat (g c3).fst.fst af;let c11:AV:=rat (f c3).fst.fst af;let c10:AV:=rat (f c3).fst.snd af;let c9:AV:=rat (g c3).fst.snd af;let c8:Bool:=(f c3).snd !=(g c3).snd;let c2:ag (List AV×aE):=aj [-(2:Int)^63<=c13/\c13<2^63] (leaf normal ([c4,c5,AV.bool false,int i64 c13],[]));some (fork (decide (c7<(↑n:Int))) (fork c8 (aj [c6/\c3<n,c6/\c3<m,c8=true] (fork true (leaf ret c1) c2)) (aj [c6/\c3<n,c6/\c3<m,c8=false,c6/\c3<n,c6/\c3<m,aW c11 (rat (aM c11) af),aW c10 (rat (aM c10) af),aW c12 (rat (aM c12) af),aW c9 (rat (aM c9) af)] (fork (bif false then true else !yB (aM c11,aM c10) (aM c12,aM c9)) (leaf ret c1) c2))) (leaf (exit 0) c1)):=ah
theorem YZ {n m i:Nat} {f g:Nat->(Rat×Rat)×Int}:cQ T Dq [] 60 f20 [part Ao [1,1,1]] ⟨aC Ay (E3 n m f g i),[],0⟩=
  some (leaf ret [AV.bool true]):=ah
theorem UL:aY P Ob 79:=cO fun⟨⟨x,y⟩,⟨z,w⟩,_⟩ K _=>by
 have hW:=cF
 refine ck hT gM hm afi rfl aX rfl 60 Yk (fun _=>?_) K []
 simp only[ag.all,az,bB,bD,cond_true]
 refine⟨fun h=>⟨⟨aa,aa,aa,aa,h,aa,aa,aa,aa⟩,gG ?_⟩,fun h=>⟨⟨aa,aa,aa,aa,h⟩,gG ?_⟩⟩
 ·show decide (y=w)=decide (x=z/\y=w)
  by_cases h2:y=w
  ·rw[decide_eq_true h2,decide_eq_true ⟨h,h2⟩]
  ·rw[decide_eq_false h2,decide_eq_false fun h3=>h2 h3.2]
 ·exact(decide_eq_false fun h3:x=z/\y=w=>h h3.1).symm
theorem SV:bR P Dq:=gi (aJ UL cz)
theorem U6 {n m:Nat} {f g:Nat->(Rat×Rat)×Int} (hn:n<2^40) (hm2:m<2^40) (K:Nat):aQ P 20 K [qG.make (n,f),qG.make (m,g)] [] (aL (.bool (vD n f m g)) []):=by
 refine jc (r:=aL (.bool (vD n f m g)) []) hT SV hm XT rfl aX rfl [1,1,0,1] (i:=0) (y:=part Ao [1,1,0,1,0,0]) (z:=part Ao [1,1,1]) ah ah ah (f1:=[10]) (f2:=[14,28,41]) (f3:=[]) 60 Ay 0
  (fun i:Nat=>E3 n m f g i) (fun _=>[]) (fun i=>i<=n/\n=m/\∀j,j<i->f j=g j) (fun i=>i=n/\n=m/\∀j,j<i->f j=g j) (fun i=>n-i) (fun _=>⟨⟨_,Ya,?_⟩,fun i ⟨h1,h2,h3⟩=>⟨_,Z7,?_⟩,fun i ⟨h1,h2,h3⟩=>⟨_,YZ,?_⟩⟩) K []
 ·simp only[ag.all,bne_iff_ne,ne_eq,bne_eq_false_iff_eq]
  exact⟨fun h=>⟨[.bool false],ah,gG (decide_eq_false (fun hh=>h aa)).symm⟩,fun h=>⟨0,⟨aa,aa,fun j hj=>aa⟩,.vals rfl⟩⟩
 ·simp only[ag.all,az,bB,bD,bJ,bne_iff_ne,ne_eq,bne_eq_false_iff_eq,cond_false,Bool.not_eq_true',Bool.not_eq_false']
  have no:¬(f i=g i)->i<n->gx [.bool false] (.bool (vD n f m g)):=fun h hi=>gG (decide_eq_false (fun hh=>h (hh.2 i hi))).symm
  have st:f i=g i->∀j,j<i+1->f j=g j:=fun h j hj=>by
   by_cases hj2:j=i
   ·subst hj2;exact h
   ·exact h3 j aa
  refine⟨fun h=>⟨fun hb=>⟨⟨⟨aa,aa⟩,⟨aa,aa⟩,hb⟩,fun _=>⟨[.bool false],ah,no (fun e=>hb (by rw[e])) aa⟩,fun h=>by cases h⟩,fun hb=>⟨⟨⟨aa,aa⟩,⟨aa,aa⟩,hb,⟨aa,aa⟩,⟨aa,aa⟩,.refl _,.refl _,.refl _,.refl _⟩,fun hc=>⟨[.bool false],ah,no (fun e=>?_) aa⟩,fun hc=>⟨aa,i+1,⟨aa,h2,st ?_⟩,by dsimp only;omega,.vals rfl⟩⟩⟩,fun h=>⟨rfl,i,⟨aa,h2,h3⟩,.vals rfl⟩⟩
  ·have:yB (f i).1 (g i).1=true:=by rw[e];exact decide_eq_true ⟨rfl,rfl⟩
   rw[show yB (f i).1 (g i).1=false from hc]at this;cases this
  ·have hc:(f i).1.1=(g i).1.1/\(f i).1.2=(g i).1.2:=of_decide_eq_true (show yB (f i).1 (g i).1=true from hc)
   exact Prod.ext (Prod.ext hc.1 hc.2) hb
 ·subst h1
  exact gG (decide_eq_true ⟨h2,h3⟩).symm
theorem ZP:aY P LB 20:=cO fun⟨⟨_,_⟩,⟨_,_⟩,_⟩ K hn=>U6 hn.1 hn.2 K
theorem Kl {c:PP} (h:eH c):∀j,eH (dH c j)
 |0=>h
 |j+1=>(Kl h j).gcd
theorem Dy.sz {z:Rat} (hz:Dy z):Sz z af:=by
 obtain⟨j,h1,h2⟩:=hz
 have hD:=nE
 have hW:=cF
 exact(h2.sz (by have:=Nat.pow_pos (n:=j) (show 0<2 by decide);omega) (e:=j) (by rw[Int.natAbs_natCast];exact Nat.le_refl _)).more aa
theorem N8 {a:PP} {s τ:Nat} {T:Int} {t:Rat} (h:Bd a s) (ht:bZ T τ t) (hT:T.natAbs<=2^τ) (hT0:T≠0) (hl:a.1<=13) (hs:2*(s+13*(τ+1))+2<=af):gb a t:=by
 obtain⟨D,d1,d2,d3⟩:=h
 intro m hm
 have h1:=HD d3 ht hT m hm
 have h2:=mW d2 (zH hT m)
 have h3:m*(τ+1)<=13*(τ+1):=Nat.mul_le_mul_right _ aa
 have h4:m*τ<=13*(τ+1):=Nat.mul_le_mul aa aa
 exact((h1.more (show s+m*(τ+1)<=s+13*(τ+1) by omega)).sz (Int.mul_ne_zero d1 (Int.pow_ne_zero hT0)) (Nat.le_trans h2 (Nat.pow_le_pow_right (by decide) (show s+m*τ<=s+13*(τ+1) by omega)))).more aa
theorem Dy.va {c:PP} (h:eH c) {z:Rat} (hz:Dy z):gb c z:=by
 obtain⟨j,h1,h2⟩:=hz
 have hD:=nE
 have hW:=cF
 exact N8 h.bd h2 (by rw[Int.natAbs_natCast];exact Nat.le_refl _) (by have:=Nat.pow_pos (n:=j) (show 0<2 by decide);omega) h.len aa
theorem RG {c:PP} (h:eH c):cN (c.1-1) (cR c.2)/\sJ c (bC c):=⟨(C4 h).2.2.2.2.1,((C4 h).2.2.2.2.2 (by have:=h.p0;omega)).1⟩
theorem agq {c:PP} (h:eH c) {x y:Rat} (hx:Dy x) (hy:Dy y) (hxy:x<=y):v5 c x y:=by
 refine⟨by have:=h.len;omega,hxy,fun j _=>?_⟩
 have hj:=Kl h j
 have hs:=H9 hj
 exact⟨hj.tr,by have:=hj.len;omega,hx.va hj,(Cd hj).2,aa,hx.ch hj,hy.ch hj,RG hj⟩
theorem xL {c:PP} (h:eH c) {x:Rat}:cr (bh c 0) x=0↔cr c x=0:=by
 rw[show cr (bh c 0) x=aK (bQ c) x from sP,show cr c x=aK c x from sP]
 constructor
 ·intro h0
  obtain⟨G,e,_,_,h1,_⟩:=AR h.tr h.p0
  rw[h1,h0,Rat.mul_zero]
 ·exact WR h.tr h.p0
theorem zC {c:PP} (hc:eH c):∀e {x y:Rat},x<y->∀s,s∈bG (bA c) (bh c) e x y->s.1<=s.2/\ko c s.1 s.2=true/\x<=s.1/\s.2<=y
 |0,_,_,_=>fun s hs=>by cases hs
 |e+1,x,y,hxy=>fun s hs=>by
  unfold bG at hs
  obtain⟨m1,m2,_⟩:=Ag hxy
  have pt:cr (bh c 0) (aV x y)=0->ko c (aV x y) (aV x y)=true:=fun h=>by
   unfold ko;rw[if_pos rfl];exact decide_eq_true ((xL hc).1 h)
  split at hs
  ·cases hs
  ·split at hs
   ·rename_i h1
    rw[List.mem_singleton,show eJ x y=x from if_neg (by grind),show eI x y=y from if_pos hxy]at hs
    subst hs
    refine⟨Rat.le_of_lt hxy,?_,Rat.le_refl,Rat.le_refl⟩
    unfold ko
    rw[if_neg (by grind),h1];rfl
   ·rcases List.mem_append.1 hs with hs|hs
    ·obtain⟨a,b,c1,d⟩:=zC hc e m1 s hs
     exact⟨a,b,c1,by grind⟩
    ·split at hs
     ·rename_i h2
      rcases List.mem_cons.1 hs with hs|hs
      ·subst hs
       exact⟨Rat.le_refl,pt h2,by grind,by grind⟩
      ·obtain⟨a,b,c1,d⟩:=zC hc e m2 s hs
       exact⟨a,b,by grind,d⟩
     ·obtain⟨a,b,c1,d⟩:=zC hc e m2 s hs
      exact⟨a,b,by grind,d⟩
theorem Vv {c:PP} (hc:eH c) {s:Rat×Rat} (hs:s∈lG cH (bA c) (bh c)):s.1<=s.2/\ko c s.1 s.2=true:=by
 have pt:∀z,cr (bh c 0) z=0->ko c z z=true:=fun z h=>by unfold ko;rw[if_pos rfl];exact decide_eq_true ((xL hc).1 h)
 unfold lG at hs
 rcases List.mem_append.1 hs with hs|hs
 ·rcases List.mem_append.1 hs with hs|hs
  ·split at hs
   ·rename_i h;rw[List.mem_singleton]at hs;subst hs;exact⟨Rat.le_refl,pt _ h⟩
   ·cases hs
  ·have:=zC hc cH (show(0:Rat)<1 by decide) s hs
   exact⟨this.1,this.2.1⟩
 ·split at hs
  ·rename_i h;rw[List.mem_singleton]at hs;subst hs;exact⟨Rat.le_refl,pt _ h⟩
  ·cases hs
theorem ET {p:PP} (hg:(aF p).1≠0->eH (aF p)):dY cH p=iG cH p:=by
 have o1:((1:Int):Rat)=1:=rfl
 unfold dY iG lG
 by_cases h0:(aF p).1=0
 ·rw[if_pos h0,if_pos h0]
 ·have hc:=hg h0
  rw[if_neg h0,if_neg h0,o1]
  have e:∀z:Rat,(if cr (aF p) z=0 then [(z,z)]else [])=if cr (bh (aF p) 0) z=0 then [(z,z)]else []:=fun z=>by
   by_cases h:cr (aF p) z=0
   ·rw[if_pos h,if_pos ((xL hc).2 h)]
   ·rw[if_neg h,if_neg fun h2=>h ((xL hc).1 h2)]
  rw[e,e]
theorem agD {p:PP} (hof:kD p) (hg:(aF p).1≠0->eH (aF p)):Cs cH p:=by
 refine⟨hof,fun h0=>?_⟩
 have hc:=hg h0
 have hs:=H9 hc
 have o1:((1:Int):Rat)=1:=rfl
 have e:dY cH p=lG cH (bA (aF p)) (bh (aF p)):=by rw[ET hg];exact if_neg h0
 rw[e,o1]
 have hl:=OM hc
 refine⟨(Cd hc).2,aa,IF hc cH 0 0 1 (Nat.zero_add _) (by have:=nE;omega) jx.zero,HJ.va hc,Ip.va hc,by have:=hc.len;omega,aa,fun i hi=>?_⟩
 obtain⟨a,b⟩:=Ru (Gd hi)
 exact agq hc a b (Vv hc (Gd hi)).1
end Go.Am.B
