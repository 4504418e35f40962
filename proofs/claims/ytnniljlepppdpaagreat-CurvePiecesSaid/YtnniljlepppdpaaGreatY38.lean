/- fo.Distinct, ref08.Distinct, slices.IsSortedFunc of numbers. -/
import Derived.Test.YtnniljlepppdpaaGreatY37
import Derived.Test.YtnniljlepppdpaaGreatZ2
set_option linter.unusedVariables false
noncomputable section
namespace Go.Am.B
open Go Go.Am.N AV ag ak IntKind
theorem ahQ:aU P Dp xk (az xk):=aT Proofs.Tryz.func28 ah ah ah
theorem Z2:aU P zV DZ (az DZ):=aT Proofs.Tryz.func197 ah ah ah
abbrev qw:Code:=az xk
abbrev oY:List Nat:=[0,3,4]
abbrev oA (n:Nat) (k:Nat->Rat) (v:AV) (i:Int):List AV:=[bN k n sJ,v,.int .i64 i]
abbrev Gj (m:Nat) (k:Nat->Rat):ax:=⟨true,true,3,m,fun i=>.rat (k i) sJ⟩
abbrev yC:Code:=az DZ
abbrev xb:List Nat:=[4,0,1,5]
abbrev IJ (n:Nat) (k:Nat->Rat) (i:Nat):List AV:=[.bool false,ls k n,.func kS [],.int .i64 ((i:Int)-1)]
def Od:aV:=[(ru,NU),(Fb,Ij)]
theorem UK {n:Nat} {k:Nat->Rat}:aJ T uA [] 60 oY (before qw [1,1,0,1]) ⟨aQ 0 [bN k n sJ],[],0⟩=
  some (leaf normal ([aq 3 n fun i=>rat (k i) 4000,nil,int i64 0],[])):=ah
theorem Sj {n:Nat} {k:Nat->Rat}:aJ T uA [8,13,25] 60 oY [part qw [1,1,0,1,0,0]] ⟨aF oY (oA n k .nil 0),[],1⟩=
  let c6:Int:=(2:Int)^63;let c5:Nat:=Int.toNat (0:Int);let c4:Int:=(0:Int)-(1:Int);let c3:AV:=aq 3 n fun i=>rat (k i) 4000;let c8:Prop:=(0:Int)<=(0:Int)/\c5<n;let c2:Prop:=-c6<=(0:Int)+(1:Int)/\(0:Int)+(1:Int)<c6;let c7:ag (List AV×aE):=aj [c2] (leaf normal ([c3,nil,int i64 1],[]));let c1:ag (List AV×aE):=aj [c8,(1:Nat)*3<=2^24,(0:Nat)<1/\1*((56:Nat)+1)*2<=2^47] (aj [c2] (leaf normal ([c3,own 102401 3 0 1,int i64 1],[(102401,ax.mk true true 3 1 fun i=>nth [rat (k c5) sJ] (rat 0 1) (i+0))])));some (fork (decide ((0:Int)<(↑n:Int))) (fork true (aj [((0:Int)==(0:Int))=true] (fork true c1 c7)) (aj [((0:Int)==(0:Int))=false,c8,-c6<=c4/\c4<c6,(0:Int)<=c4/\c4.toNat<n] (fork (bif false then true else !decide (k c5=k c4.toNat)) c1 c7))) (leaf (exit 0) ([c3,nil,int i64 0],[]))):=ah
theorem afK {n l i:Nat} {k x:Nat->Rat}:aJ T uA [8,13,25] 60 oY [part qw [1,1,0,1,0,0]] ⟨aF oY (oA n k (.own 0 3 0 (l+1)) ((i+1:Nat):Int)),[(0,Gj (l+1) x)],1⟩=
  let c6:AV:=aq 3 n fun i=>rat (k i) 4000;let c5:Nat:=l+1;let c4:Int:=(2:Int)^63;let c2:Int:=(↑(i+1):Int);let c12:Nat:=c5+1;let c11:Prop:=(0:Int)<=c2/\c2.toNat<n;let c10:AV:=own 0 3 0 c5;let c9:Int:=c2+(1:Int);let c8:Int:=c2-(1:Int);let c7:Nat×ax:=(0,ax.mk true true 3 c5 fun i=>rat (x i) 4000);let c3:ag (List AV×aE):=aj [-c4<=c9/\c9<c4] (leaf normal ([c6,c10,int i64 c9],[c7]));let c1:ag (List AV×aE):=aj [c11,(1:Nat)*3<=2^24,c12*((56:Nat)+1)*2<=2^47] (aj [-c4<=c9/\c9<c4] (leaf normal ([c6,own 102401 3 0 c12,int i64 c9],[(102401,ax.mk true true 3 c12 fun i=>if i<c5 then rat (x i) sJ else nth [rat (k c2.toNat) sJ] (rat 0 1) (i-c5+0))])));some (fork (decide (c2<(↑n:Int))) (fork false (aj [(c2==(0:Int))=true] (fork true c1 c3)) (aj [(c2==(0:Int))=false,c11,-c4<=c8/\c8<c4,(0:Int)<=c8/\c8.toNat<n] (fork (bif false then true else !decide (k c2.toNat=k c8.toNat)) c1 c3))) (leaf (exit 0) ([c6,c10,int i64 c2],[c7]))):=ah
theorem T5 {n:Nat} {k:Nat->Rat}:cJ T uA [] 60 xk [part qw [1,1,1]] ⟨aF oY (oA n k .nil 0),[],1⟩=
  some (leaf ret [nil]):=ah
theorem RW {n l i:Nat} {k x:Nat->Rat}:cJ T uA [] 60 xk [part qw [1,1,1]] ⟨aF oY (oA n k (.own 0 3 0 (l+1)) ((i+1:Nat):Int)),[(0,Gj (l+1) x)],1⟩=
  some (leaf ret [aq 3 (l+1) fun i=>rat (x (i+0)) 4000]):=ah
theorem aeu {n:Nat} {k:Nat->Rat}:aJ T gC [] 60 xb (before yC [1,0,1]) ⟨aQ 0 [ls k n,.func kS []],[],0⟩=
  let c1:Int:=(↑n:Int)-(1:Int);some (aj [-(2:Int)^63<=c1/\c1<(2:Int)^63] (leaf normal ([AV.bool false,aq 3 n fun i=>rat (k i) 4096,func kS [],int i64 c1],[]))):=ah
theorem aek {n i:Nat} {k:Nat->Rat}:aJ T gC [10,24] 60 xb [part yC [1,0,1,0,0]] ⟨aF xb (IJ n k i),[],1⟩=
  let c5:AV:=aq 3 n fun i=>rat (k i) 4096;let c4:Int:=(2:Int)^63;let c1:Int:=(↑i:Int)-(1:Int);let c3:List AV:=[AV.bool false,c5,func kS [],int i64 c1];let c2:Int:=c1-(1:Int);let c6:Int:=ek (k c1.toNat) (k c2.toNat);some (fork (decide (c1>(0:Int))) (aj [(0:Int)<=c1/\c1.toNat<n,-c4<=c2/\c2<c4,(0:Int)<=c2/\c2.toNat<n] (fork (decide (c6<(0:Int))) (leaf ret (c3,[])) (aj [-c4<=c2/\c2<c4] (leaf normal ([AV.bool false,c5,func kS [],int i64 c2],[]))))) (leaf (exit 0) (c3,[]))):=ah
theorem XJ {n i:Nat} {k:Nat->Rat}:cJ T gC [] 60 DZ [part yC [1,1]] ⟨aF xb (IJ n k i),[],1⟩=
  some (leaf ret [AV.bool true]):=ah
theorem ahU {n:Nat} {k:Nat->Rat}:bP T Od [] 60 Av (az Av) ⟨aQ 0 [bN k n sJ],[],0⟩=
  let c1:Prop:=n<2^40;some (aj [bV (fun i=>rat (k i) sJ) n sJ,c1,n=n,IU (fun i=>rat (aZ (rat (k i) sJ)) sK) n sK,c1] (leaf ret [aq 3 (aP (fun i=>aZ (rat (aZ (rat (k i) sJ)) sK)) n) fun i=>rat (lf (fun i=>aZ (rat (aZ (rat (k i) sJ)) sK)) n (i+0)) 4096])):=ah
def kF (g:FuncId):Kind Unit:=⟨fun v=>match v with
 |.func f []=>match Nat.beq f g with
  |true=>some ((),[])
  |false=>none
 |_=>none,fun _=>.func g [],fun {v a q} h _=>by
  split at h
  ·split at h
   ·rename_i hb
    rw[Nat.eq_of_beq_eq_true hb];exact .refl _
   ·simp at h
  ·simp at h⟩
def qe (p:Prop):Bool:=@decide p (Classical.propDecidable p)
theorem aaq {p:Prop} (h:p):qe p=true:=@decide_eq_true p (Classical.propDecidable p) h
theorem abJ {p:Prop} (h:¬p):qe p=false:=@decide_eq_false p (Classical.propDecidable p) h
theorem aal {p:Prop} (h:qe p=true):p:=@of_decide_eq_true p (Classical.propDecidable p) h
theorem aaX {p:Prop} (h:qe p=false):¬p:=@of_decide_eq_false p (Classical.propDecidable p) h
theorem abt {n:Nat} {k:Nat->Rat} (hn:n<2^40) (K:Nat):aD P zV K [ls k n,.func kS []] [] (aL (.bool (qe (oN n k))) []):=by
 refine g8 (r:=aL (.bool (qe (oN n k))) []) hT lI hm Z2 rfl aW rfl [1,0,1] (i:=0) (y:=part yC [1,0,1,0,0]) (z:=part yC [1,1]) ah ah ah (f1:=[]) (f2:=[10,24]) (f3:=[]) 60 xb 1
  (fun i:Nat=>IJ n k i) (fun _=>[]) (fun i=>i<=n/\∀j,i<=j+1->j+1<n->k j<=k (j+1)) (fun _=>oN n k) (fun i=>i) (fun _=>⟨⟨_,aeu,?_⟩,fun i ⟨h1,h2⟩=>⟨_,aek,?_⟩,fun i hi=>⟨_,XJ,?_⟩⟩) K []
 ·simp only[ag.all,aA]
  exact⟨aa,n,⟨bp,fun j h1 h2=>aa⟩,eu.vals rfl⟩
 ·simp only[ag.all,aA,bf,bt,qc]
  refine⟨fun h=>⟨aa,fun hlt=>⟨[.bool false],ah,fR ?_⟩,fun hle=>⟨aa,i-1,⟨aa,fun j g1 g2=>?_⟩,by dsimp only;omega,[],rfl,?_,rfl,trivial⟩⟩,fun h=>⟨rfl,i,fun j hj=>h2 j aa hj,[],rfl,rfl,rfl,trivial⟩⟩
  ·refine(abJ fun hs=>?_).symm
   have:=hs (i-2) aa
   rw[show((i:Int)-1).toNat=i-2+1 by omega,show((i:Int)-1-1).toNat=i-2 by omega]at hlt
   grind
  ·by_cases he:j+2=i
   ·rw[show((i:Int)-1).toNat=j+1 by omega,show((i:Int)-1-1).toNat=j by omega]at hle
    grind
   ·exact h2 j aa g2
  ·show _=[_,_,_,AV.int .i64 (((i-1:Nat):Int)-1)]
   rw[show((i-1:Nat):Int)-1=(i:Int)-1-1 by omega];rfl
 ·simp only[ag.all,aA]
  exact fR (aaq hi).symm
def Ra:Spec:=dj (kC (kL sK) (kC (kF kS) kN)) (fun a=>.bool (qe (oN a.1.1 a.1.2))) fun a=>[a.1.1<2^40]
theorem WI:∀K args pre r,Ra K args pre=some r->aD P zV K args pre r:=cY fun⟨⟨n,k⟩,_,_⟩ K hn=>abt hn K
def FQ:Spec:=dj (kC (kL sJ) kN) (fun a=>ls (aR a.1.2 a.1.1) (aP a.1.2 a.1.1)) fun a=>[a.1.1<2^40]
theorem RN:bn P Od:=aI ae3 (aI agU bE)
theorem Pp:∀K args pre r,FQ K args pre=some r->aD P yF K args pre r:=cY fun⟨⟨n,k⟩,_⟩ K hn=>by
 have hn:n<2^40:=hn
 refine bW (r:=aL (ls (aR k n) (aP k n)) []) hT RN hm Yr rfl aW rfl 60 ahU (fun _=>?_) K []
 simp only[ag.all,aA]
 exact⟨⟨cI bp,hn,trivial,ag8 bp,hn⟩,rU rfl fun i hi=>by
  show AV.rat (lf k n (i+0)) sK=_
  have hi:i<aP k n:=hi
  rw[Nat.add_zero];unfold lf;rw[if_pos hi]⟩
theorem Vz:∀K args pre r,FQ K args pre=some r->aD P Dp K args pre r:=cY fun⟨⟨n,k⟩,_⟩ K hn=>by
 have hn:n<2^40:=hn
 refine g8 (r:=aL (ls (aR k n) (aP k n)) []) hT UR hm ahQ rfl aW rfl [1,1,0,1] (i:=0) (y:=part qw [1,1,0,1,0,0]) (z:=part qw [1,1,1]) ah ah ah (f1:=[]) (f2:=[8,13,25]) (f3:=[]) 60 oY 1
  (fun i:Nat=>oA n k (match i with
   |0=>.nil
   |_+1=>.own 0 3 0 (aP k i)) i) (fun i=>match i with
   |0=>[]
   |_+1=>[(0,Gj (aP k i) (aR k i))]) (fun i=>i<=n) (fun i=>i=n) (fun i=>n-i) (fun _=>⟨⟨_,UK,?_⟩,fun i hi=>?_,fun i hi=>?_⟩) K []
 ·simp only[ag.all,aA]
  exact⟨0,Nat.zero_le _,eu.vals rfl⟩
 ·cases i with
  |zero=>
   refine⟨_,Sj,?_⟩
   simp only[ag.all,aA,bf,bt]
   have e1:aP k 1=1:=by simp[aP,eo]
   have e2:aR k 1 0=k 0:=by simp[aR,aP,eo,jn]
   (repeat' with_reducible first|refine And.intro ?_ ?_|intro _)
   all_goals first|omega|decide|exact absurd ‹true=false› (by decide)|skip
   ·refine⟨1,aa,by dsimp only;omega,[(0,102401)],rfl,?_,rfl,bO rfl rfl e1.symm (fun j hj=>?_) trivial⟩
    ·show _=(oA n k (.own 0 3 0 (aP k 1)) 1).map _
     rw[e1];rfl
    ·have hj:j=0:=by rw[e1]at hj;omega
     subst hj
     exact cB rfl (by rw[e2];rfl)
   ·exact⟨rfl,0,aa,eu.vals rfl⟩
  |succ i=>
   obtain⟨l,hl⟩:∃l,aP k (i+1)=l+1:=⟨aP k (i+1)-1,by have:=(oC (k:=k) (n:=i)).1;omega⟩
   dsimp only
   rw[hl]
   refine⟨_,afK,?_⟩
   simp only[ag.all,aA,bf,bt]
   have e3:((i+1:Nat):Int).toNat=i+1:=aa
   have e4:(((i+1:Nat):Int)-1).toNat=i:=aa
   have hle:=nL (k:=k) (n:=i+1)
   (repeat' with_reducible first|refine And.intro ?_ ?_|intro _)
   all_goals first|omega|exact absurd ‹false=true› (by decide)|exact absurd ‹true=false› (by decide)|skip
   ·simp
    omega
   ·rename_i hne
    rw[e3,e4,cond_false,Bool.not_eq_true',bt]at hne
    have hnew:eo k (i+1):=Pj.2 hne
    have e5:aP k (i+1+1)=l+1+1:=by rw[KH hnew,hl]
    refine⟨i+2,aa,by dsimp only;omega,[(0,102401)],rfl,?_,rfl,bO rfl rfl e5.symm (fun j hj=>?_) trivial⟩
    ·show _=(oA n k (.own 0 3 0 (aP k (i+1+1))) ((i+1+1:Nat):Int)).map _
     rw[e5];rfl
    ·rw[e5]at hj
     refine pG (y:=aR k (i+1+1)) (fun x hx=>?_) ?_ bp bp hj
     ·rw[show aR k (i+1+1)=jn (aR k (i+1)) (aP k (i+1)) (k (i+1))from if_pos hnew,hl,gY aa]
     ·rw[show aR k (i+1+1)=jn (aR k (i+1)) (aP k (i+1)) (k (i+1))from if_pos hnew,hl,mQ,e3]
   ·rename_i heq
    rw[e3,e4,cond_false,Bool.not_eq_false',bf]at heq
    have hold:¬eo k (i+1):=fun h=>Pj.1 h heq
    have e5:aP k (i+1+1)=l+1:=by rw[F7 hold,hl]
    refine⟨i+2,aa,by dsimp only;omega,[(0,0)],rfl,?_,rfl,bO rfl rfl e5.symm (fun j hj=>cB rfl ?_) trivial⟩
    ·show _=(oA n k (.own 0 3 0 (aP k (i+1+1))) ((i+1+1:Nat):Int)).map _
     rw[e5];rfl
    ·show _=AV.rat (aR k (i+1+1) j) sJ
     rw[show aR k (i+1+1)=aR k (i+1)from if_neg hold]
   ·refine⟨rfl,i+1,aa,[(0,0)],rfl,?_,rfl,bO rfl rfl hl.symm (fun j hj=>cB rfl rfl) trivial⟩
    show _=(oA n k (.own 0 3 0 (aP k (i+1))) ((i+1:Nat):Int)).map _
    rw[hl];rfl
 ·cases i with
  |zero=>
   refine⟨_,T5,?_⟩
   simp only[ag.all,aA]
   subst hi
   exact jI aa
  |succ i=>
   obtain⟨l,hl⟩:∃l,aP k (i+1)=l+1:=⟨aP k (i+1)-1,by have:=(oC (k:=k) (n:=i)).1;omega⟩
   dsimp only
   rw[hl]
   refine⟨_,RW,?_⟩
   simp only[ag.all,aA]
   subst hi
   exact(rU (g:=fun j=>.rat (aR k (i+1) j) sJ) hl.symm fun j hj=>rfl).trans (gm fun j hj=>fJ (by decide))
theorem Tf:aU P wo tf (az tf):=aT Proofs.Tryz.func92 ah ah ah
def D9:aV:=(zV,Ra)::(yF,FQ)::(tA,A3)::tw
abbrev yb:Code:=az tf
abbrev qy:List Nat:=[0,1,4,48,49,50]
abbrev Fm (n:Nat) (k:Nat->Rat) (p:Int) (d:Nat) (f:Nat->Rat) (i:Nat):List AV:=[bN k n sJ,.int .i64 p,.int .i64 0,bN f d sK,.int .i64 d,.int .i64 i]
theorem S9 {n:Nat} {k:Nat->Rat} {p:Int}:aJ T D9 [18,15,22,29,35,46] 60 qy (before yb [1,1,1,0,1]) ⟨aQ 0 [bN k n sJ,.int .i64 p],[],0⟩=
  let c16:Int:=(↑n:Int);let c15:Prop:=bV (fun i=>rat (k i) sJ) n sK;let c14:Nat:=Int.toNat (0:Int);let c13:Nat:=aP (fun i=>aZ (rat (k i) sJ)) n;let c11:Bool:=decide (p<(1:Int));let c10:Int:=i64.wrap (i64.wrap ((2:Int)*p)+(2:Int));let c9:Prop:=n<2^40;let c7:List AV:=[tuple [],tuple [],tuple []];let c6:Bool:=!qe (oN n fun i=>aZ (rat (k i) sJ));let c3:AV:=aq 3 n fun i=>rat (k i) 4000;let c12:List AV:=c3::int i64 p::int i64 1::c7;let c8:Int:=i64.wrap (i64.wrap (c16-p)-(1:Int));let c5:Int:=i64.wrap (c16-(1:Int));let c4:ag (List AV×aE):=leaf ret (c3::int i64 p::int i64 5::c7,[]);let c2:ag (List AV×aE):=aj [bV (fun i=>rat (k i) sJ) n sJ,c9] (leaf normal ([c3,int i64 p,int i64 0,aq 3 c13 fun i=>rat (aR (fun i=>aZ (rat (k i) sJ)) n i) 4096,int i64 (↑c13:Int),int i64 0],[]));let c1:ag (List AV×aE):=fork (decide (c16<c10)) c4 (fork (decide (c8>(40:Int))) (leaf ret (c3::int i64 p::int i64 2::c7,[])) (fork c6 (aj [c15,c9,c6=true] (fork true c4 c2)) (aj [c15,c9,c6=false,(0:Int)<=(0:Int)/\c14<n,(0:Int)<=c5/\c5.toNat<n] (fork (bif false then true else decide (k c14=k c5.toNat)) c4 c2))));some (fork c11 (aj [c11=true] (fork true (leaf ret (c12,[])) c1)) (aj [c11=false] (fork (bif false then true else decide (p>(6:Int))) (leaf ret (c12,[])) c1))):=ah
theorem UP {n d i:Nat} {k f:Nat->Rat} {p:Int}:aJ T D9 [51,62,73,79,82,87] 60 qy [part yb [1,1,1,0,1,0,0]] ⟨aF qy (Fm n k p d f i),[],1⟩=
  let c18 : Int := (↑d : Int); let c16 : Prop := false = false; let c13 : Int := (↑i : Int); let c12 : Prop := 0 < 1; let c11 : AV := aq 3 d fun i => rat (f i) 4096; let c10 : AV := aq 3 n fun i => rat (k i) 4000; let c9 : Int := i64.wrap ((↑n : Int) - (1 : Int)); let c8 : Nat := Int.toNat (0 : Int); let c17 : Prop := (0 : Int) <= (0 : Int) /\ c8 < n; let c14 : List AV := [c11, int i64 c18, int i64 c13]; let c7 : Rat := f c13.toNat; let c1 : ag (List AV × aE) := leaf normal ([c10, int i64 p, int i64 (0 : Int), c11, int i64 c18, int i64 (i64.wrap (c13 + (1 : Int)))], []); let c15 : Bool := decide (c7 = k c8); let c4 : Int := (↑(bF (fun i => aZ (rat (k i) sJ)) c7 n) : Int); let c3 : Bool := bif false then true else decide (c7 = k c9.toNat); let c2 : ag (List AV × aE) := leaf ret (c10 :: int i64 p :: int i64 (5 : Int) :: c14, []); let c6 : ag (List AV × aE) := fork (bif false then true else bif true then decide (c4 > p) else false) c2 c1; let c5 : Bool := bif true then c4 != i64.wrap (p + (1 : Int)) else false; some (fork (decide (c13 < c18)) (aj [(0 : Int) <= c13 /\ c13.toNat < d, c12] (aj [c12, bV (fun i => rat (k i) sJ) n sK, sK <= sK, n < 2 ^ 40] (fork c15 (aj [c12, c17, c15 = true] (fork true (fork c5 (aj [true = true, c5 = true] (fork true c2 c1)) (fork false (aj [true = true, c5 = false, (!true) = true] c6) (aj [true = true, c5 = false, (!true) = false] (fork false c2 c1)))) (fork false (aj [true = false, false = true] (fork true c2 c1)) (fork false (aj [true = false, c16, (!true) = true] c6) (aj [true = false, c16, (!true) = false] (fork false c2 c1)))))) (aj [c12, c17, c15 = false, c12, (0 : Int) <= c9 /\ c9.toNat < n] (fork c3 (fork c5 (aj [c3 = true, c5 = true] (fork true c2 c1)) (fork (!c3) (aj [c3 = true, c5 = false, (!c3) = true] c6) (aj [c3 = true, c5 = false, (!c3) = false] (fork false c2 c1)))) (fork false (aj [c3 = false, false = true] (fork true c2 c1)) (fork (!c3) (aj [c3 = false, c16, (!c3) = true] c6) (aj [c3 = false, c16, (!c3) = false] (fork false c2 c1))))))))) (leaf (exit 1) (c10 :: int i64 p :: int i64 (0 : Int) :: c14, []))) := ah
theorem af9 {n d i:Nat} {k f:Nat->Rat} {p:Int}:cJ T D9 [] 60 tf [part yb [1,1,1,1]] ⟨aF qy (Fm n k p d f i),[],1⟩=
  some (leaf ret [int i64 0]):=ah
theorem afj:bn P D9:=aI WI (aI Pp (aI EU yY))
def tc (n:Nat) (p:Int):Prop:=1<=p/\p<=6/\2*p+2<=(n:Int)/\(n:Int)-p-1<=40
theorem WO {n:Nat} {k:Nat->Rat} {p:Int} (hn:n<2^40) (K:Nat):aD P wo K [bN k n sJ,.int .i64 p] [] (aL (.int .i64 (gF n k p)) []):=by
 refine g8 (r:=aL (.int .i64 (gF n k p)) []) hT afj hm Tf rfl aW rfl [1,1,1,0,1] (i:=1) (y:=part yb [1,1,1,0,1,0,0]) (z:=part yb [1,1,1,1]) ah ah ah (f1:=[18,15,22,29,35,46]) (f2:=[51,62,73,79,82,87]) (f3:=[]) 60 qy 1
  (fun i:Nat=>Fm n k p (aP k n) (aR k n) i) (fun _=>[]) (fun i=>i<=aP k n/\tc n p/\oN n k/\k 0≠k (n-1)/\∀j,j<i->¬kQ n k p.toNat (aR k n j)) (fun _=>tc n p/\sw n k p.toNat) (fun i=>aP k n-i) (fun _=>⟨⟨_,S9,?_⟩,fun i ⟨h1,h2,h3,h4,h5⟩=>⟨_,UP,?_⟩,fun i ⟨h1,h2⟩=>⟨_,af9,?_⟩⟩) K []
 ·have r:∀{e:Int} {u:AV},gF n k p=e->nO tf qy (.int .i64 (gF n k p)) ([u,.int .i64 p,.int .i64 e,.tuple [],.tuple [],.tuple []],[]):=fun h=>⟨[.int .i64 _],ah,bJ h.symm⟩
  by_cases hp:1<=p/\p<=6
  ·have e1:i64.wrap (i64.wrap (2*p)+2)=2*p+2:=by rw[wrap_i64 (show-2^63<=2*p by omega) aa];exact wrap_i64 aa aa
   have e2:i64.wrap (i64.wrap ((n:Int)-p)-1)=(n:Int)-p-1:=by rw[wrap_i64 (show-2^63<=(n:Int)-p by omega) aa];exact wrap_i64 aa aa
   have e3:i64.wrap ((n:Int)-1)=(n:Int)-1:=wrap_i64 aa aa
   have e5:((n:Int)-1).toNat=n-1:=aa
   simp only[ag.all,aA,decide_eq_true_eq,decide_eq_false_iff_not,Bool.not_eq_true',Bool.not_eq_false',cond_true,cond_false,Int.toNat_natCast,Int.toNat_zero,yW,e1,e2,e3,e5]
   (repeat' with_reducible first|refine And.intro ?_ ?_|intro _)
   all_goals first|exact absurd ‹true=false› (by decide)|exact absurd ‹false=true› (by decide)|omega|(exfalso;omega)|exact cI (by decide)|assumption|exact r (ad3 aa aa)|exact r (Zz aa aa aa)|exact r (G5 aa aa aa fun h=>aaX ‹_› h.1)|exact r (G5 aa aa aa fun h=>h.2.1 ‹_›)|exact⟨0,⟨Nat.zero_le _,⟨aa,aa,aa,aa⟩,aal ‹_›,‹_›,fun j hj=>absurd hj (Nat.not_lt_zero j)⟩,eu.vals rfl⟩|skip
   skip
  ·simp only[ag.all,aA,decide_eq_true_eq,decide_eq_false_iff_not,Bool.not_eq_true',Bool.not_eq_false',cond_true,cond_false,Int.toNat_natCast]
   (repeat' with_reducible first|refine And.intro ?_ ?_|intro _)
   all_goals first|exact absurd ‹true=false› (by decide)|exact absurd ‹false=true› (by decide)|omega|(exfalso;omega)|exact r (Sv aa)|skip
   skip
 ·obtain⟨q,rfl⟩:∃q:Nat,p=(q:Int):=⟨p.toNat,by have:=h2.1;omega⟩
  have hq:=h2
  unfold tc at hq
  have e1:i64.wrap ((q:Int)+1)=((q+1:Nat):Int):=by rw[wrap_i64 aa aa];rfl
  have e2:i64.wrap ((i:Int)+1)=((i+1:Nat):Int):=by rw[wrap_i64 aa (by have:=nL (k:=k) (n:=n);omega)];rfl
  have e3:i64.wrap ((n:Int)-1)=(n:Int)-1:=wrap_i64 aa aa
  have e5:((n:Int)-1).toNat=n-1:=aa
  simp only[Int.toNat_natCast]at h5
  have hd:=nL (k:=k) (n:=n)
  have r:∀{u v w x y:AV},kQ n k q (aR k n i)->i<aP k n->nO tf qy (.int .i64 (gF n k q)) ([u,v,.int .i64 5,w,x,y],[]):=fun h hi=>⟨[.int .i64 5],ah,bJ (G5 aa aa aa fun hk=>hk.2.2 i hi (by rw[Int.toNat_natCast];exact h)).symm⟩
  have nx:¬kQ n k q (aR k n i)->i<aP k n->∀j,j<i+1->¬kQ n k q (aR k n j):=fun h hi j hj=>by
   by_cases he:j=i
   ·subst he;exact h
   ·exact h5 j aa
  simp only[ag.all,aA,decide_eq_true_eq,decide_eq_false_iff_not,Bool.not_eq_true',Bool.not_eq_false',cond_true,cond_false,Int.toNat_natCast,Int.toNat_zero,yW,e1,e2,e3,e5,bne_iff_ne,bne_eq_false_iff_eq,ne_eq]
  obtain⟨c,hc⟩:∃c,bF k (aR k n i) n=c:=⟨_,rfl⟩
  have hc':bF (fun i=>k i) (aR k n i) n=c:=hc
  simp only[hc']
  have b1:aR k n i=k 0->c≠q+1->kQ n k q (aR k n i):=fun h1 h2=>.inl ⟨.inl h1,by rw[hc];exact h2⟩
  have b2:aR k n i=k (n-1)->c≠q+1->kQ n k q (aR k n i):=fun h1 h2=>.inl ⟨.inr h1,by rw[hc];exact h2⟩
  have b3:¬aR k n i=k 0->¬aR k n i=k (n-1)->q<c->kQ n k q (aR k n i):=fun h1 h2 h3=>.inr ⟨fun h=>h.elim h1 h2,by rw[hc];exact h3⟩
  have g1:aR k n i=k 0->c=q+1->¬kQ n k q (aR k n i):=by
   rintro h1 h2 (⟨_,h3⟩|⟨h3,_⟩)
   ·exact h3 (by rw[hc];exact h2)
   ·exact h3 (.inl h1)
  have g2:aR k n i=k (n-1)->c=q+1->¬kQ n k q (aR k n i):=by
   rintro h1 h2 (⟨_,h3⟩|⟨h3,_⟩)
   ·exact h3 (by rw[hc];exact h2)
   ·exact h3 (.inr h1)
  have g3:¬aR k n i=k 0->¬aR k n i=k (n-1)->c<=q->¬kQ n k q (aR k n i):=by
   rintro h1 h2 h3 (⟨h4,_⟩|⟨_,h4⟩)
   ·exact h4.elim h1 h2
   ·rw[hc]at h4;omega
  clear hc hc'
  (repeat' with_reducible first|refine And.intro ?_ ?_|intro _)
  all_goals first|exact absurd ‹true=false› (by decide)|exact absurd ‹false=true› (by decide)|omega|(exfalso;omega)|exact cI (by decide)|assumption|skip
  all_goals first
   |exact absurd ‹aR k n i=k (n-1)› ‹_›
   |exact⟨rfl,i,⟨h2,h3,h4,fun j hj=>h5 j aa⟩,eu.vals rfl⟩
   |exact r (b1 ‹_› aa) aa
   |exact r (b2 ‹_› aa) aa
   |exact r (b3 ‹¬_=k 0› ‹_› (by have:=of_decide_eq_true ‹decide _=true›;omega)) aa
   |exact⟨i+1,⟨aa,h2,h3,h4,nx (g1 ‹_› aa) aa⟩,by dsimp only;omega,eu.vals rfl⟩
   |exact⟨i+1,⟨aa,h2,h3,h4,nx (g2 ‹_› aa) aa⟩,by dsimp only;omega,eu.vals rfl⟩
   |exact⟨i+1,⟨aa,h2,h3,h4,nx (g3 ‹¬_=k 0› ‹_› (by have:=of_decide_eq_false ‹decide _=false›;omega)) aa⟩,by dsimp only;omega,eu.vals rfl⟩
 ·simp only[ag.all,aA]
  exact bJ (X9 (by have:=h1;unfold tc at this;omega) (by have:=h1;unfold tc at this;omega) (by have:=h1;unfold tc at this;omega) h2).symm
def Gn:Spec:=dj (kC (kL sJ) (kC kI kN)) (fun a=>.int .i64 (gF a.1.1 a.1.2 a.2.1)) fun a=>[a.1.1<2^40]
theorem Ku:∀K args pre r,Gn K args pre=some r->aD P wo K args pre r:=cY fun⟨⟨n,k⟩,p,_⟩ K hn=>WO hn K
open Go Go.Am.N AV
def iI:AV->Pl
 |.agg [.agg [x,y,z],w]=>⟨⟨aZ x,aZ y,aZ z⟩,aZ w⟩
 |_=>⟨⟨0,0,0⟩,0⟩
def fI (f:Nat->AV) (n s:Nat):Prop:=∀i,i<n->bD (f i) (bU (iI (f i)) s)
abbrev mE (f:Nat->Pl) (n s:Nat):AV:=.aq 12 n (fun i=>bU (f i) s)
theorem Ji {u v:Pl} {n k:Nat} (h:u=v) (hk:n<=k):bD (bU u n) (bU v k):=
 h▸cu ⟨mB rfl hk,bQ rfl hk,trivial⟩
theorem gh {f:Nat->Pl} {n s s':Nat} (h:s<=s'):fI (fun i=>bU (f i) s) n s':=fun _ _=>Ji rfl h
def uh:AV->Option (Nat×(Nat->AV))
 |.aq 12 n f=>some (n,f)
 |.nil=>some (0,fun _=>.nil)
 |_=>none
theorem YZ {v:AV} {n s:Nat} {f:Nat->AV} (h:uh v=some (n,f)) (ha:fI f n s):bD v (mE (fun i=>iI (f i)) n s):=by
 unfold uh at h
 split at h
 ·simp only[au,Prod.mk.injEq]at h
  obtain⟨rfl,rfl⟩:=h
  exact gm ha
 ·simp only[au,Prod.mk.injEq]at h
  obtain⟨rfl,rfl⟩:=h
  exact jI aa
 ·simp at h
def BX (s:Nat):Kind (Nat×(Nat->Pl)):=⟨fun v=>match uh v with
 |some (n,f)=>some ((n,fun i=>iI (f i)),[fI f n s])
 |none=>none,fun a=>mE a.2 a.1 s,fun {v a q} h hq=>by
  split at h
  ·rename_i h1
   simp only[au,Prod.mk.injEq]at h
   obtain⟨rfl,rfl⟩:=h
   exact YZ h1 hq
  ·simp at h⟩
abbrev cy (h:Pl) (s:Nat):AV:=.agg [.rat h.n.x s,.rat h.n.y s,.rat h.n.z s,.rat h.d s]
def QL (s:Nat):Kind Pl:=⟨fun v=>match v with
 |.agg [x,y,z,w]=>match jv x,jv y,jv z,jv w with
  |some (x,a),some (y,b),some (z,c),some (w,d)=>some (⟨⟨x,y,z⟩,w⟩,[a<=s,b<=s,c<=s,d<=s])
  |_,_,_,_=>none
 |_=>none,fun a=>cy a s,fun {v a q} h hq=>by
  split at h
  ·split at h
   ·rename_i h1 h2 h3 h4
    simp only[au,Prod.mk.injEq]at h
    obtain⟨rfl,rfl⟩:=h
    exact cu ⟨(jQ h1).trans (bQ rfl hq.1),(jQ h2).trans (bQ rfl hq.2.1),(jQ h3).trans (bQ rfl hq.2.2.1),(jQ h4).trans (bQ rfl hq.2.2.2),trivial⟩
   ·simp at h
  ·simp at h⟩
structure Cu where
 p:Int
 n:Nat
 k:Nat->Rat
 m:Nat
 f:Nat->Pl
abbrev bT (c:Cu) (s r:Nat):AV:=.agg [.int .i64 c.p,bN c.k c.n s,mE c.f c.m r]
def iF (s r:Nat):Kind Cu:=⟨fun v=>match v with
 |.agg [p,k,f]=>match kI.read p,(kL s).read k,(BX r).read f with
  |some (p,q1),some ((n,k),q2),some ((m,f),q3)=>some (⟨p,n,k,m,f⟩,q1++(q2++q3))
  |_,_,_=>none
 |_=>none,fun a=>bT a s r,fun {v a q} h hq=>by
  split at h
  ·split at h
   ·rename_i h1 h2 h3
    simp only[au,Prod.mk.injEq]at h
    obtain⟨rfl,rfl⟩:=h
    obtain⟨q1,hq⟩:=dn.1 hq
    obtain⟨q2,q3⟩:=dn.1 hq
    exact cu ⟨kI.ok h1 q1,(kL s).ok h2 q2,(BX r).ok h3 q3,trivial⟩
   ·simp at h
  ·simp at h⟩
structure Sf where
 u:Int
 v:Int
 a:Nat
 ku:Nat->Rat
 b:Nat
 kv:Nat->Rat
 n:Nat
 m:Nat
 f:Nat->Nat->Pl
theorem Im {rl:List (Nat×Nat)} {l i s s' s2:Nat} {x y:Nat->Pl} {t:AV} {z:AV} (hx:∀i,i<l->x i=y i) (ht:bD t (bU (y l) s')) (hk:keys t=[]) (h1:s<=s2) (h2:s'<=s2) (hi:i<l+1):
  gA rl (if i<l then bU (x i) s else nth [t] z (i-l+0)) (bU (y i) s2):=by
 by_cases h:i<l
 ·rw[if_pos h,hx i h];exact .inr ⟨rfl,Ji rfl h1⟩
 ·have:i=l:=aa
  subst this
  rw[if_neg h,Nat.sub_self]
  exact .inr ⟨hk,ht.trans (Ji rfl h2)⟩
open Go Go.Am.N AV ag ak IntKind
abbrev sH:Nat:=2147483648
abbrev sE:Nat:=4294967298
def DY (h:Pl):V3:=⟨((1:Int):Rat)/h.d*h.n.x,((1:Int):Rat)/h.d*h.n.y,((1:Int):Rat)/h.d*h.n.z⟩
abbrev mh (h:Pl) (s:Nat):ax:=⟨false,true,12,1,fun _=>cy h s⟩
def Ue (c:Cu) (x:Nat->Rat) (b j:Nat):Pl:=
 ⟨⟨cD j fun j=>x j*((c.f (b+j)).d*(c.f (b+j)).n.x),cD j fun j=>x j*((c.f (b+j)).d*(c.f (b+j)).n.y),cD j fun j=>x j*((c.f (b+j)).d*(c.f (b+j)).n.z)⟩,cD j fun j=>x j*(c.f (b+j)).d⟩
def jf (c:Cu) (t:Rat):Pl:=Ue c (vB c.k (bL c.n c.k t) t c.p.toNat) (bL c.n c.k t-c.p.toNat) (c.p.toNat+1)
def fY (c:Cu) (t:Rat):V3:=if cT c.n c.k t then⟨0,0,0⟩else DY (jf c t)
abbrev KJ:ax:=⟨false,true,3,1,fun _=>.agg [.int .i64 0,.nil,.nil]⟩
structure SfW (s:Sf):Prop where
 ku:Kn s.a s.u.toNat s.ku
 kv:Kn s.b s.v.toNat s.kv
 u0:0<=s.u
 u6:s.u<=6
 v0:0<=s.v
 v6:s.v<=6
 a:s.a<2^30
 b:s.b<2^30
 n:(s.n:Int)=(s.a:Int)-s.u-1
 m:(s.m:Int)=(s.b:Int)-s.v-1
theorem acp:aU P Lw IV (az IV):=aT Proofs.Tryz.func182 ah ah ah
theorem U4:aU P uU C9 (az C9):=aT Proofs.Tryz.func154 ah ah ah
theorem ZP:aU P qz CR (az CR):=aT Proofs.Tryz.func83 ah ah ah
theorem PE:aU P D3 tB (az tB):=aT Proofs.Tryz.func153 ah ah ah
theorem Yv:aU P vh Bd (az Bd):=aT Proofs.Tryz.func85 ah ah ah
theorem adZ:aU P As Af (az Af):=aT Proofs.Tryz.func74 ah ah ah
def b9 (p:Pl):Pl:=⟨⟨p.d*p.n.x,p.d*p.n.y,p.d*p.n.z⟩,p.d⟩
def fu (h:Pl):Pl:=⟨⟨h.n.x/h.d,h.n.y/h.d,h.n.z/h.d⟩,h.d⟩
abbrev rj (f:Nat->Pl) (n s:Nat):AV:=.aq 12 n (fun i=>cy (f i) s)
abbrev dL (c:Cu) (s r:Nat):AV:=.agg [.int .i64 c.p,bN c.k c.n s,rj c.f c.m r]
def Q4:aV:=nG::fK
def AR:aV:=nG::(Lw,gT T Q4 [] 80 IV)::fK
abbrev xg:List Nat:=[2,3,12,13,14]
abbrev I0 (c:Cu) (r i:Nat):List AV:=[.ptr 0 0 3 0 [],.ptr 1 0 3 0 [],mE c.f c.m r,.int .i64 c.m,.int .i64 i]
abbrev ER (c:Cu) (x w i:Nat):aE:=[(2,⟨true,true,12,i,fun j=>cy (b9 (c.f j)) w⟩),(1,⟨false,true,3,1,fun _=>.agg [.int .i64 c.p,bN c.k c.n x,.own 2 12 0 i]⟩),(0,⟨false,true,3,1,fun _=>.agg [.int .i64 0,.nil,.nil]⟩)]
abbrev vw:Code:=az CR
def KQ:aV:=nG::(uZ,jZ kR kR DH qd)::fK
def Ky (f:Nat->Pl) (x:Nat->Rat) (b j:Nat):Pl:=
 ⟨⟨cD j fun j=>x j*(f (b+j)).n.x,cD j fun j=>x j*(f (b+j)).n.y,cD j fun j=>x j*(f (b+j)).n.z⟩,cD j fun j=>x j*(f (b+j)).d⟩
def Dz:aV:=nG::(DA,Kx)::fK
abbrev xY:List Nat:=[4,5,2,6,7,36,37,38]
abbrev D6 (p i:Nat) (x:Nat->Rat) (j:Nat):List AV:=[.ptr 1 0 12 0 [],.int .i64 0,.ptr 0 0 3 0 [],.ptr 2 0 12 0 [],.int .i64 ((i:Int)-p),.aq 3 (p+1) (fun j=>.rat (x j) sV),.int .i64 ((p+1:Nat):Int),.int .i64 j]
abbrev oG (c:Cu) (r:Nat):ax:=⟨false,true,3,1,fun _=>dL c sK r⟩
abbrev uW:Code:=az tB
def pB:AV->Pl
 |.agg [x,y,z,w]=>⟨⟨aZ x,aZ y,aZ z⟩,aZ w⟩
 |_=>⟨⟨0,0,0⟩,0⟩
def mo (f:Nat->AV) (n s:Nat):Prop:=∀i,i<n->bD (f i) (cy (pB (f i)) s)
theorem XD {v:AV} {n s:Nat} {f:Nat->AV} (h:uh v=some (n,f)) (ha:mo f n s):bD v (rj (fun i=>pB (f i)) n s):=by
 unfold uh at h
 split at h
 ·simp only[au,Prod.mk.injEq]at h
  obtain⟨rfl,rfl⟩:=h
  exact gm ha
 ·simp only[au,Prod.mk.injEq]at h
  obtain⟨rfl,rfl⟩:=h
  exact jI aa
 ·simp at h
theorem WL {h:Pl} {s:Nat}:bP T KQ [] 80 C9 (az C9) ⟨aQ 0 [cy h s],[],0⟩=
  let c8:Int:=(↑(3:Nat):Int);let c7:Int:=(↑(4:Nat):Int);let c5:Int:=(2:Int)^63;let c4:Prop:=s<2^42;let c2:Prop:=0<1;let c1:Int:=(0:Int)+(1:Int);let c6:Int:=c1+(1:Int);let c3:Prop:=(0:Int)<=(3:Int)/\(3:Int)<c7;some (aj [c3,c2,c4,(1:Nat)<2^42,c2] (aj [(0:Int)<=(0:Int)/\(0:Int)<c7,c2,c3,c2,c4,c4,(0:Int)<=(0:Int)/\(0:Int)<c8,c2] (aj [-c5<=c1/\c1<c5] (aj [(0:Int)<=c1/\c1<c7,c2,c3,c2,c4,c4,(0:Int)<=c1/\c1<c8,c2] (aj [-c5<=c6/\c6<c5] (aj [(0:Int)<=c6/\c6<c7,c2,c3,c2,c4,c4,(0:Int)<=c6/\c6<c8,c2] (aj [-c5<=c6+(1:Int)/\c6+(1:Int)<c5] (aj [c2,c2] (aj [c2] (leaf ret [agg [agg [rat (h.n.x/h.d) (s+s),rat (h.n.y/h.d) (s+s),rat (h.n.z/h.d) (s+s)],rat (h.d+0) (s+1+1)]])))))))))):=ah
theorem adS {c:Cu} {x r:Nat}:aJ T AR [] 60 xg (before vw [1,1,0,1]) ⟨aQ 0 [bT c x r],[],0⟩=
  let c2:Prop:=0<1;let c1:AV:=agg [int i64 0,nil,nil];some (aj [c2,c2,c2] (aj [c2] (leaf normal ([ptr 4096 0 3 0 [],ptr 28672 0 3 0 [],aq 12 c.m fun i=>agg [agg [rat (c.f i).n.x r,rat (c.f i).n.y r,rat (c.f i).n.z r],rat (c.f i).d r],int i64 (↑c.m:Int),int i64 0],[((28672:Nat),bg fun j=>if(j==0)=true then bA (agg ((c1.kids.set 0 (bA (int i64 c.p))).set 1 (bA (bN c.k c.n x))))else c1),((4096:Nat),bg fun x=>c1)])))):=ah
theorem Uo {c:Cu} {x r w i:Nat}:aJ T AR [15] 60 xg [part vw [1,1,0,1,0,0]] ⟨aF xg (I0 c r i),ER c x w i,3⟩=
  let c17:Int:=(↑c.m:Int);let c16:Int:=(↑(3:Nat):Int);let c15:AV:=own 2 12 0 i;let c14:AV:=ptr 1 0 3 0 [];let c13:AV:=ptr 0 0 3 0 [];let c12:Int:=(↑(4:Nat):Int);let c11:Int:=(↑i:Int);let c10:AV:=rat 0 1;let c7:Nat×ax:=((0:Nat),bg fun x=>agg [int i64 0,nil,nil]);let c5:AV:=aq 12 c.m fun i=>agg [agg [rat (c.f i).n.x r,rat (c.f i).n.y r,rat (c.f i).n.z r],rat (c.f i).d r];let c4:Int:=(2:Int)^63;let c3:Prop:=r<2^42;let c2:Int:=(0:Int)+(1:Int);let c1:Prop:=0<1;let c18:Int:=c11+(1:Int);let c9:AV:=agg [int i64 c.p,bN c.k c.n x,c15];let c8:Int:=c2+(1:Int);let c6:Pl:=c.f c11.toNat;some (fork (decide (c11<c17)) (aj [(0:Int)<=c11/\c11.toNat<c.m,c1] (aj [c1,c1,c1,(0:Int)<=(0:Int)/\(0:Int)<c16,c1,c1,c1,c3,c3,(0:Int)<=(0:Int)/\(0:Int)<c12,c1,-c4<=c2/\c2<c4,(0:Int)<=c2/\c2<c16,c1,c1,c1,c3,c3,(0:Int)<=c2/\c2<c12,c1,-c4<=c8/\c8<c4,(0:Int)<=c8/\c8<c16,c1,c1,c1,c3,c3,(0:Int)<=c8/\c8<c12,c1,-c4<=c8+(1:Int)/\c8+(1:Int)<c4,c1,c3,(1:Nat)<2^42,(0:Int)<=(3:Int)/\(3:Int)<c12,c1,c1,c1,c1,(1:Nat)*12<=2^24,(i+1)*((224:Nat)+1)*2<=2^47,c1] (aj [-c4<=c18/\c18<c4] (leaf normal ([c13,c14,c5,int i64 c17,int i64 c18],[(40963,ax.mk true true 12 (i+1) fun i_1=>if i_1<i then cy (b9 (c.f i_1)) w else nth [agg [rat (c6.d*c6.n.x) (r+r),rat (c6.d*c6.n.y) (r+r),rat (c6.d*c6.n.z) (r+r),rat (c6.d+0) (r+1+1)]] (agg [c10,c10,c10,c10]) (i_1-i+0)),((1:Nat),bg fun j=>if(j==0)=true then agg (c9.kids.set 2 (bA (own (nat_lit 40962+1) 12 0 (i+1))))else c9),c7]))))) (leaf (exit 0) ([c13,c14,c5,int i64 c17,int i64 c11],[(2,ax.mk true true 12 i fun j=>agg [rat ((c.f j).d*(c.f j).n.x) w,rat ((c.f j).d*(c.f j).n.y) w,rat ((c.f j).d*(c.f j).n.z) w,rat (c.f j).d w]),((1:Nat),bg fun x_1=>agg [int i64 c.p,aq 3 c.n fun i=>rat (c.k i) x,c15]),c7]))):=ah
theorem aix {c:Cu} {x r w i:Nat}:cJ T AR [] 60 CR [part vw [1,1,1]] ⟨aF xg (I0 c r i),ER c x w i,3⟩=
  let c1:Prop:=0<1;some (aj [c1,c1] (aj [c1] (leaf ret [agg [int i64 c.p,aq 3 c.n fun i=>rat (c.k i) x,aq 12 i fun i=>agg [rat ((c.f (i+0)).d*(c.f (i+0)).n.x) w,rat ((c.f (i+0)).d*(c.f (i+0)).n.y) w,rat ((c.f (i+0)).d*(c.f (i+0)).n.z) w,rat (c.f (i+0)).d w]]]))):=ah
theorem Z1 {c:Cu} {r:Nat} {t:Rat}:aJ T Dz [25,34] 60 xY (before uW [1,1,1,1,0,1]) ⟨aQ 0 [dL c sK r,.rat t sK],[],0⟩=
  let c16 : Nat := bL c.n (fun i => aZ (rat (c.k i) sK)) t; let c15 : Prop := cT c.n (fun i => aZ (rat (c.k i) sK)) t; let c14 : AV := ptr 8192 0 12 0 []; let c13 : AV := ptr 16384 0 12 0 []; let c12 : AV := ptr 0 0 (bA (dL c sK r)).size 0 []; let c11 : AV := rat 0 1; let c10 : Prop := 0 < 1; let c8 : Bool := eH c.n (fun i => aZ (rat (c.k i) sK)) t != (0 : Int); let c6 : Nat × ax := ((0 : Nat), ax.mk false true (bA (dL c sK r)).size 1 fun x => agg [int i64 c.p, aq 3 c.n fun i => rat (c.k i) 4096, aq 12 c.m fun i => agg [rat (c.f i).n.x r, rat (c.f i).n.y r, rat (c.f i).n.z r, rat (c.f i).d r]]); let c7 : Nat := if c15 then 0 else c.p.toNat + 1; let c5 : Int := if c15 then (0 : Int) else (↑c16 : Int) - (↑c.p.toNat : Int); let c4 : AV := agg [c11, c11, c11, c11]; let c9 : ax := ax.mk false true 12 1 fun x => c4; let c3 : Int := c5 + (↑c7 : Int); let c2 : ag (List AV × aE) := leaf normal ([c14, int i64 (0 : Int), c12, c13, int i64 c5, aq 3 c7 fun j => rat (vB (fun i => aZ (rat (c.k i) sK)) c16 t c.p.toNat j) 268435456, int i64 (↑c7 : Int), int i64 (0 : Int)], [((16384 : Nat), c9), c6, ((8192 : Nat), c9)]); let c1 : ag (List AV × aE) := aj [c10] (leaf ret ([c14, int i64 (7 : Int), c12, c13, int i64 c5, tuple [], tuple [], tuple []], [((16384 : Nat), c9), c6, ((8192 : Nat), ax.mk false true 12 1 fun j => if (j == 0) = true then bA (agg c4.kids) else c4)])); some (aj [c10, c10, c10, bV (fun i => rat (c.k i) sK) c.n sK, sK <= sK, Kn c.n c.p.toNat fun i => aZ (rat (c.k i) sK), (0 : Int) <= c.p, c.p <= (6 : Int), c.n < 2 ^ 40] (fork c8 (aj [c8 = true] (fork true c1 c2)) (aj [c8 = false, -(2 : Int) ^ 63 <= c3 /\ c3 < (2 : Int) ^ 63, c10] (fork (bif false then true else decide (c3 > (↑c.m : Int))) c1 c2)))) := ah
theorem Xj {c:Cu} {h:Pl} {p i j s r:Nat} {x:Nat->Rat}:aJ T Dz [39] 60 xY [part uW [1,1,1,1,0,1,0,0]] ⟨aF xY (D6 p i x j),[(2,mh h s),(1,mh ⟨⟨0,0,0⟩,0⟩ 1),(0,oG c r)],3⟩=
  let c29:Int:=(↑i:Int)-(↑p:Int);let c26:AV:=ptr 0 0 3 0 [];let c24:AV:=ptr 2 0 12 0 [];let c23:AV:=ptr 1 0 12 0 [];let c21:AV:=rat 0 1;let c20:Int:=(↑(p+1):Int);let c19:AV:=aq 3 (p+1) fun j=>rat (x j) 268435456;let c16:Int:=(↑j:Int);let c15:Bool:=0==0;let c10:Int:=(↑(4:Nat):Int);let c9:Int:=(0:Int)+(1:Int);let c8:Nat:=2^42;let c7:Prop:=0<1;let c6:Int:=(2:Int)^63;let c33:Prop:=sV+r<c8;let c32:Rat:=x c16.toNat;let c31:Int:=c16+(1:Int);let c28:Prop:=(0:Int)<=c9/\c9<c10;let c18:Prop:=(0:Int)<=(0:Int)/\(0:Int)<c10;let c4:List (Nat×ax):=[((0:Nat),bg fun x=>agg [int i64 c.p,aq 3 c.n fun i=>rat (c.k i) 4096,aq 12 c.m fun i=>agg [rat (c.f i).n.x r,rat (c.f i).n.y r,rat (c.f i).n.z r,rat (c.f i).d r]]),(1,ax.mk false true 12 1 fun x=>agg [c21,c21,c21,c21])];let c3:Int:=c9+(1:Int);let c2:Int:=c29+c16;let c30:Pl:=c.f c2.toNat;let c27:Prop:=(0:Int)<=c3/\c3<c10;let c25:Prop:=-c6<=c2/\c2<c6;let c17:Prop:=(0:Int)<=c2/\c2.toNat<c.m;let c12:Int:=c3+(1:Int);let c22:Prop:=(0:Int)<=c12/\c12<c10;let c11:AV:=agg ((cy h s).kids.set (Int.toNat (0:Int)) (bA (mz (h.n.x,s) (c32*c30.n.x,sV+r))));let c5:AV:=if c15=true then c11 else cy h s;let c13:AV:=agg (c5.kids.set c9.toNat (bA (mz (h.n.y,s) (c32*c30.n.y,sV+r))));let c1:AV:=if c15=true then c13 else c5;let c14:AV:=agg (c1.kids.set c3.toNat (bA (mz (h.n.z,s) (c32*c30.n.z,sV+r))));some (fork (decide (c16<c20)) (aj [(0:Int)<=c16/\c16.toNat<p+1,c7] (aj [c18,c7,c7,c7,c25,c17,c18,sV<c8,r<c8,s<c8,c33,c18,c7] (aj [-c6<=c9/\c9<c6] (aj [c28,c7,c7,c7,c25,c17,c28,sV<c8,r<c8,s<c8,c33,c28,c7] (aj [-c6<=c3/\c3<c6] (aj [c27,c7,c7,c7,c25,c17,c27,sV<c8,r<c8,s<c8,c33,c27,c7] (aj [-c6<=c12/\c12<c6] (aj [c22,c7,c7,c7,c25,c17,c22,sV<c8,r<c8,s<c8,c33,c22,c7] (aj [-c6<=c12+(1:Int)/\c12+(1:Int)<c6] (aj [-c6<=c31/\c31<c6] (leaf normal ([c23,int i64 0,c26,c24,int i64 c29,c19,int i64 c20,int i64 c31],(2,ax.mk false true 12 1 fun j=>if(j==0)=true then agg ((if c15=true then c14 else c1).kids.set c12.toNat (bA (mz (h.d,s) (c32*c30.d,sV+r))))else if(j==0)=true then c14 else if(j==0)=true then c13 else if(j==0)=true then c11 else cy h s)::c4)))))))))))) (leaf (exit 0) ([c23,int i64 0,c26,c24,int i64 c29,c19,int i64 c20,int i64 c16],(2,ax.mk false true 12 1 fun x=>agg [rat h.n.x s,rat h.n.y s,rat h.n.z s,rat h.d s])::c4))):=ah
theorem agf {c:Cu} {h:Pl} {p i j s r:Nat} {x:Nat->Rat}:cJ T Dz [] 60 tB [part uW [1,1,1,1,1]] ⟨aF xY (D6 p i x j),[(2,mh h s),(1,mh ⟨⟨0,0,0⟩,0⟩ 1),(0,oG c r)],3⟩=
  let c1:Prop:=0<1;some (aj [c1,c1] (aj [c1] (leaf ret [agg [rat h.n.x s,rat h.n.y s,rat h.n.z s,rat h.d s],int i64 0]))):=ah
theorem U7:bn P Q4:=dB fZ
theorem Te:bn P AR:=dB (aI (ig hT U7 hm acp _ _) fZ)
theorem YL:bn P KQ:=dB (aI (kE fun _ _ K hn=>Cx hn.1 hn.2 K) fZ)
theorem PD:bn P Dz:=dB (aI Tq fZ)
theorem zo {rl:List (Nat×Nat)} {l i:Nat} {f g:Nat->AV} {v z:AV} (hf:∀i,i<l->f i=g i/\keys (f i)=[]) (hk:keys v=[]) (hv:bD v (g l)) (hi:i<l+1):gA rl (if i<l then f i else nth [v] z (i-l+0)) (g i):=by
 by_cases h:i<l
 ·rw[if_pos h];exact cB (hf i h).2 (hf i h).1
 ·have:i=l:=aa
  subst this
  rw[if_neg h,Nat.sub_self]
  exact .inr ⟨hk,hv⟩
theorem uf {rl:List (Nat×Nat)} {p:Int} {v:AV} {a b i:Nat} (hv:keys v=[]) (ht:v.isTuple=false) (h:aY rl b=some a):gA rl (.agg [.int .i64 p,v,.own a 12 0 i]) (.agg [.int .i64 p,v,.own b 12 0 i]):=
 l9 ⟨⟨rfl,aK rfl⟩,⟨ht,aK hv⟩,⟨rfl,cP h rfl rfl⟩,trivial⟩
theorem Ec {h h':Pl} {s s':Nat} (e:h=h') (hs:s<=s'):bD (cy h s) (cy h' s'):=e▸cu ⟨bQ rfl hs,bQ rfl hs,bQ rfl hs,bQ rfl hs,trivial⟩
theorem Kv {h:Pl} {s w:Nat} (hs:s<2^40) (h1:s+s<=w) (h2:s+2<=w) (K:Nat):aD P uU K [cy h s] [] (aL (bU (fu h) w) []):=by
 refine bW (r:=aL (bU (fu h) w) []) hT YL hm U4 rfl aW rfl 80 WL (fun _=>?_) K []
 simp only[ag.all,aA]
 (repeat' with_reducible refine And.intro ?_ ?_)
 all_goals first|omega|skip
 exact cu ⟨cu ⟨bQ rfl h1,bQ rfl h1,bQ rfl h1,trivial⟩,bQ (Rat.add_zero _) aa,trivial⟩
theorem PA {c:Cu} {x r w:Nat} (h1:r+r<=w) (h2:r+2<=w) (hw:w<2^40) (hn:c.n<2^40) (hm2:c.m<2^30) (K:Nat):aD P qz K [bT c x r] [] (aL (.agg [.int .i64 c.p,bN c.k c.n x,rj (fun i=>b9 (c.f i)) c.m w]) []):=by
 refine g8 (r:=aL (.agg [.int .i64 c.p,bN c.k c.n x,rj (fun i=>b9 (c.f i)) c.m w]) []) hT Te hm ZP rfl aW rfl [1,1,0,1] (i:=0) (y:=part vw [1,1,0,1,0,0]) (z:=part vw [1,1,1]) ah ah ah (f1:=[]) (f2:=[15]) (f3:=[]) 60 xg 3
  (fun i:Nat=>I0 c r i) (fun i=>ER c x w i) (fun i=>i<=c.m) (fun i=>i=c.m) (fun i=>c.m-i) (fun _=>⟨⟨_,adS,?_⟩,fun i hi=>⟨_,Uo,?_⟩,fun i hi=>⟨_,aix,?_⟩⟩) K []
 ·simp only[ag.all,aA]
  exact⟨aa,aa,0,Nat.zero_le _,[(0,4096),(1,28672)],rfl,rfl,rfl,qL rfl aa aa (dF rfl rfl (l9 ⟨⟨rfl,aK rfl⟩,⟨rfl,aK rfl⟩,⟨rfl,r9 aa⟩,trivial⟩) (aO trivial))⟩
 ·set_option maxRecDepth 10000 in simp only[ag.all,aA,bf,bt,aX,Nat.add_zero]
  refine⟨fun h=>⟨aa,aa,aa,i+1,aa,by dsimp only;omega,[(0,0),(1,1),(2,40963)],rfl,rfl,rfl,bO rfl rfl rfl (fun j hj=>zo (g:=fun j=>cy (b9 (c.f j)) w) (fun _ _=>⟨rfl,rfl⟩) rfl (cu ⟨bQ rfl h1,bQ rfl h1,bQ rfl h1,bQ (Rat.add_zero _) aa,trivial⟩) hj) (dF rfl rfl (uf rfl rfl rfl) (aO trivial))⟩,
   fun h=>⟨rfl,i,aa,[(0,0),(1,1),(2,2)],rfl,rfl,rfl,g9 (dF rfl rfl (uf rfl rfl rfl) (aO trivial))⟩⟩
 ·subst hi
  simp only[ag.all,aA]
  exact⟨aa,aa,.refl _⟩
theorem ajj {c:Cu} {r:Nat}:kU T tB .ret ⟨aF [4,5,2,6] [.ptr 8192 0 12 0 [],.int .i64 7,.ptr 0 0 3 0 [],.ptr 16384 0 12 0 []],[(16384,⟨false,true,12,1,fun _=>.agg [.rat 0 1,.rat 0 1,.rat 0 1,.rat 0 1]⟩),(0,oG c r),(8192,⟨false,true,12,1,fun j=>if(j==0)=true then bA (.agg (AV.kids (.agg [.rat 0 1,.rat 0 1,.rat 0 1,.rat 0 1])))else .agg [.rat 0 1,.rat 0 1,.rat 0 1,.rat 0 1]⟩)],16385⟩=
  let c1:AV:=rat 0 1;some (aj [(0:Nat)<1] (leaf ret [agg [c1,c1,c1,c1],int i64 7])):=ah
def ow (c:Cu) (t:Rat):Pl:=if cT c.n c.k t then⟨⟨0,0,0⟩,0⟩else Ky c.f (vB c.k (bL c.n c.k t) t c.p.toNat) (bL c.n c.k t-c.p.toNat) (c.p.toNat+1)
theorem Xb {c:Cu} {t:Rat} {r s:Nat} (hr:1+7*(sV+r+1)<=s) (hs:s<2^40) (hk:Kn c.n c.p.toNat c.k) (h0:0<=c.p) (h6:c.p<=6) (hn:c.n<2^40) (hm2:(c.m:Int)=(c.n:Int)-c.p-1) (K:Nat):aD P D3 K [dL c sK r,.rat t sK] [] (aL (.tuple [cy (ow c t) s,.int .i64 (eH c.n c.k t)]) []):=by
 refine iy (r:=aL (.tuple [cy (ow c t) s,.int .i64 (eH c.n c.k t)]) []) hT PE rfl aW rfl (fun _ cx h00=>?_) K []
 have hkp:=sL h00
 obtain⟨q,hq⟩:∃q,q=c.p.toNat:=⟨_,rfl⟩
 have hq2:c.p=(q:Int):=aa
 obtain⟨i,hi⟩:∃i,i=bL c.n c.k t:=⟨_,rfl⟩
 obtain⟨x,hx⟩:∃x,x=vB c.k i t q:=⟨_,rfl⟩
 have h1:sK=4096:=rfl
 have h2:sV=268435456:=rfl
 have z0:1+0*(sV+r+1)=1:=aa
 have zle:∀j,j<=7->1+j*(sV+r+1)<=s:=fun j hj=>by
  have:=Nat.mul_le_mul_right (sV+r+1) hj
  omega
 refine ay.jx hT PD hm (x:=uW) [1,1,1,1,0,1] (i:=0) (y:=part uW [1,1,1,1,0,1,0,0]) (z:=part uW [1,1,1,1,1]) ah ah ah PE.dst hkp (f1:=[25,34]) (f2:=[39]) 60 xY 3 (fun j:Nat=>D6 q i x j) (fun j=>[(2,mh (Ky c.f x (i-q) j) (1+j*(sV+r+1))),(1,mh ⟨⟨0,0,0⟩,0⟩ 1),(0,oG c r)])
  (fun j=>j<=q+1/\¬cT c.n c.k t) (fun j=>j=q+1/\¬cT c.n c.k t) (fun j=>q+1-j) (wO T tB [4,5,2,6] (.tuple [cy (ow c t) s,.int .i64 (eH c.n c.k t)])) ⟨_,Z1,?_⟩ (fun j ⟨hj,hin⟩=>⟨_,Xj,?_⟩) (fun j ⟨hj,hin⟩=>?_) (fun v s' hv hs'=>hv.fin (L1:=[7,36,37,38]) hkp hs')
 ·simp only[ag.all,aA,yW,bne_iff_ne,ne_eq,bne_eq_false_iff_eq]
  have hko:cT c.n (fun i=>c.k i) t=cT c.n c.k t:=rfl
  have hkE:eH c.n (fun i=>c.k i) t=eH c.n c.k t:=rfl
  have hkI:bL c.n (fun i=>c.k i) t=bL c.n c.k t:=rfl
  simp only[hko,hkE,hkI]
  refine⟨⟨aa,aa,aa,cI bp,bp,hk,h0,h6,hn⟩,fun hout=>⟨hout,fun _=>⟨aa,?_⟩,fun h=>absurd h (by decide)⟩,fun he=>?_⟩
  ·have ho:=Ri hout
   refine⟨[_,_,_,_],_,16385,_,rfl,rfl,rfl,ajj,rfl,⟨⟨aa,fun i _=>rfl⟩,⟨aa,fun i _=>rfl⟩,⟨aa,fun i _=>xy rfl rfl⟩,trivial⟩,Nat.zero_lt_one,?_⟩
   exact⟨Ec (h:=⟨⟨0,0,0⟩,0⟩) (by unfold ow;rw[if_pos ho]) aa,bJ (by unfold eH;rw[if_pos ho]),trivial⟩
  ·have hin:=Lp he
   have hiv:=hk.uo hin
   simp only[if_neg hin]
   refine⟨⟨he,aa,aa⟩,fun h=>?_,fun _=>⟨0,⟨Nat.zero_le _,hin⟩,[(0,0),(1,8192),(2,16384)],rfl,?_,rfl,dF rfl rfl (cB rfl (by rw[z0];rfl)) (aO (aO trivial))⟩⟩
   ·exfalso
    rw[cond_false,bf]at h
    omega
   ·show _=(D6 q i x 0).map _
    rw[hx,hq,hi];rfl
 ·have hiv:=hk.uo hin
  rw[<-hi,<-hq]at hiv
  simp only[ag.all,aA,bf,bt,show((i:Int)-q+j).toNat=i-q+j by omega,aX]
  refine⟨fun h=>?_,fun h=>⟨rfl,j,⟨aa,hin⟩,[(0,0),(1,1),(2,2)],rfl,rfl,rfl,aO (aO (aO trivial))⟩⟩
  have hz:=zle j aa
  have hzS:1+(j+1)*(sV+r+1)=1+j*(sV+r+1)+(sV+r+1):=by rw[Nat.add_mul,Nat.one_mul];omega
  have hz2:=zle (j+1) aa
  generalize 1+j*(sV+r+1)=zj at*
  (repeat' with_reducible refine And.intro ?_ ?_)
  all_goals first|omega|skip
  exact⟨j+1,⟨aa,hin⟩,by dsimp only;omega,[(0,0),(1,1),(2,2)],rfl,rfl,rfl,dF rfl rfl (.inr ⟨rfl,cu ⟨bQ rfl aa,bQ rfl aa,bQ rfl aa,bQ rfl aa,trivial⟩⟩) (aO (aO trivial))⟩
 ·subst hj
  refine ay.mC ((aG.fin hT PD hm 60 agf ah ?_).mono fun _ _ h=>.inl h)
  simp only[ag.all,aA]
  have hz:=zle (q+1) aa
  refine⟨aa,aa,?_,bJ (by unfold eH;rw[if_neg hin]),trivial⟩
  exact Ec (by unfold ow;rw[if_neg hin,<-hi,<-hq,<-hx]) hz
def uJ (s r:Nat):Kind Cu:=⟨fun v=>match v with
 |.agg [p,k,f]=>match kI.read p,(kL s).read k,uh f with
  |some (p,q1),some ((n,k),q2),some (m,f)=>some (⟨p,n,k,m,fun i=>pB (f i)⟩,q1++(q2++[mo f m r]))
  |_,_,_=>none
 |_=>none,fun a=>dL a s r,fun {v a q} h hq=>by
  split at h
  ·split at h
   ·rename_i h1 h2 h3
    simp only[au,Prod.mk.injEq]at h
    obtain⟨rfl,rfl⟩:=h
    obtain⟨q1,hq⟩:=dn.1 hq
    obtain⟨q2,q3⟩:=dn.1 hq
    exact cu ⟨kI.ok h1 q1,(kL s).ok h2 q2,XD h3 q3,trivial⟩
   ·simp at h
  ·simp at h⟩
def KS:Spec:=dj (kC (iF sJ sJ) kN) (fun a=>dL ⟨a.1.p,a.1.n,a.1.k,a.1.m,fun i=>b9 (a.1.f i)⟩ sJ (sJ+sJ)) fun a=>[a.1.n<2^40,a.1.m<2^30]
def K1:Spec:=dj (kC (uJ sK (sJ+sJ)) (kC (gz sK) kN)) (fun a=>.tuple [cy (ow a.1 a.2.1) sH,.int .i64 (eH a.1.n a.1.k a.2.1)]) fun a=>[Kn a.1.n a.1.p.toNat a.1.k,0<=a.1.p,a.1.p<=6,a.1.n<2^40,(a.1.m:Int)=(a.1.n:Int)-a.1.p-1]
def Jy:Spec:=dj (kC (QL sH) kN) (fun a=>bU (fu a.1) sE) fun _=>[]
def dz (c:Cu):Prop:=Kn c.n c.p.toNat c.k/\1<=c.p/\c.p<=6/\c.n<=c.p.toNat+41/\(c.m:Int)=(c.n:Int)-c.p-1
def K4:aV:=nG::(wo,Gn)::(tF,v9)::[]
def vO:Spec:=dj (kC (iF sJ sJ) kN) (fun _=>.bool true) fun a=>[dz a.1]
def J4:aV:=nG::(vh,vO)::(qz,KS)::(D3,K1)::(uU,Jy)::[]
theorem aiQ {c:Cu}:bP T K4 [100009] 60 Bd (az Bd) ⟨aQ 0 [bT c sJ sJ],[],0⟩=
  let c2:Prop:=c.n<2^40;let c1:Prop:=0<1;some (aj [c1,c1,bV (fun i=>rat (c.k i) sJ) c.n sJ,c2,(gF c.n (fun i=>aZ (rat (c.k i) sJ)) c.p==(0:Int))=true,c1,c1,c1,bV (fun i=>rat (c.k i) sJ) c.n sK,c2,-(2:Int)^40<c.p,c.p<(2:Int)^40] (leaf ret [AV.bool (bif true then(↑c.m:Int)==(↑c.n:Int)-c.p-(1:Int)else false)])):=ah
theorem Zl {c:Cu} {t:Rat}:bP T J4 [20] 60 Af (az Af) ⟨aQ 0 [bT c sJ sJ,.rat t sK],[],0⟩=
  let c7 : Prop := c.n < 2 ^ 40; let c6 : Prop := fI (fun i => bU (c.f i) sJ) c.m sJ; let c5 : Prop := bV (fun i => rat (c.k i) sJ) c.n sJ; let c4 : AV := rat 0 1; let c3 : Int := eH c.n (fun i => aZ (rat (aZ (rat (c.k i) sJ)) sJ)) t; let c2 : Prop := 0 < 1; let c1 : Pl := ow (Cu.mk c.p c.n (fun i => aZ (rat (aZ (rat (c.k i) sJ)) sJ)) c.m fun i => pB (cy (b9 (iI (bU (c.f i) sJ))) (sJ + sJ))) t; some (aj [c2, c5, c6, dz (Cu.mk c.p c.n (fun i => aZ (rat (c.k i) sJ)) c.m fun i => iI (bU (c.f i) sJ))] (aj [c2, c5, c6, c7, c.m < 2 ^ 30, c2, bV (fun i => rat (aZ (rat (c.k i) sJ)) sJ) c.n sK, mo (fun i => cy (b9 (iI (bU (c.f i) sJ))) (sJ + sJ)) c.m (sJ + sJ), sK <= sK, Kn c.n c.p.toNat fun i => aZ (rat (aZ (rat (c.k i) sJ)) sJ), (0 : Int) <= c.p, c.p <= (6 : Int), c7, (↑c.m : Int) = (↑c.n : Int) - c.p - (1 : Int), c2] (fork (c3 != (0 : Int)) (aj [c2] (aj [c2] (leaf ret [agg [c4, c4, c4], int i64 c3]))) (aj [c2, sH <= sH, sH <= sH, sH <= sH, sH <= sH, c2] (aj [c2] (leaf ret [agg [rat (c1.n.x / c1.d) 4294967298, rat (c1.n.y / c1.d) 4294967298, rat (c1.n.z / c1.d) 4294967298], int i64 (0 : Int)])))))) := ah
theorem aat:∀K args pre r,KS K args pre=some r->aD P qz K args pre r:=cY fun⟨c,_⟩ K hn=>PA bp (by decide) (by decide) hn.1 hn.2 K
theorem agu:∀K args pre r,K1 K args pre=some r->aD P D3 K args pre r:=cY fun⟨c,t,_⟩ K hn=>Xb (by decide) (by decide) hn.1 hn.2.1 hn.2.2.1 hn.2.2.2.1 hn.2.2.2.2 K
theorem agL:∀K args pre r,Jy K args pre=some r->aD P uU K args pre r:=cY fun⟨h,_⟩ K _=>Kv (by decide) (by decide) (by decide) K
theorem V4:bn P K4:=dB (aI Ku (aI zF bE))
theorem Dv:∀K args pre r,vO K args pre=some r->aD P vh K args pre r:=cY fun⟨c,_⟩ K hn=>by
 obtain⟨h1,h2,h3,h4,h5⟩:dz c:=hn
 refine bW (r:=aL (.bool true) []) hT V4 hm Yv rfl aW rfl 60 aiQ (fun _=>?_) K []
 have hc0:gF c.n c.k c.p=0:=by have:=h1.Rg aa h4;rwa [Int.toNat_of_nonneg aa]at this
 simp only[ag.all,aA]
 exact⟨⟨aa,aa,cI bp,aa,beq_iff_eq.2 hc0,aa,aa,aa,cI (by decide),aa,aa,aa⟩,fR (beq_iff_eq.2 h5)⟩
theorem aas:bn P J4:=dB (aI Dv (aI aat (aI agu (aI agL bE))))
theorem div_one {a b:Rat}:a/b=((1:Int):Rat)/b*a:=by
 rw[Rat.div_def,Rat.div_def,show((1:Int):Rat)=1 from rfl,Rat.one_mul,Rat.mul_comm]
theorem W3 {h:Pl}:(fu h).n=DY h:=by
 show V3.mk (h.n.x/h.d) (h.n.y/h.d) (h.n.z/h.d)=V3.mk _ _ _
 rw[div_one (a:=h.n.x),div_one (a:=h.n.y),div_one (a:=h.n.z)]
def E7:Spec:=dj (kC (iF sJ sJ) (kC (gz sK) kN)) (fun a=>.tuple [vA (fY a.1 a.2.1) sE,.int .i64 (eH a.1.n a.1.k a.2.1)]) fun a=>[dz a.1]
theorem Jx:∀K args pre r,E7 K args pre=some r->aD P As K args pre r:=cY fun⟨c,t,_⟩ K hn=>by
 have hc:dz c:=hn
 obtain⟨h1,h2,h3,h4,h5⟩:=id hc
 refine bW (r:=aL (.tuple [vA (fY c t) sE,.int .i64 (eH c.n c.k t)]) []) hT aas hm adZ rfl aW rfl 60 Zl (fun _=>?_) K []
 have e1:eH c.n (fun i=>aZ (rat (aZ (rat (c.k i) sJ)) sJ)) t=eH c.n c.k t:=rfl
 simp only[ag.all,aA,e1,bne_iff_ne,ne_eq,bne_eq_false_iff_eq]
 refine⟨⟨aa,cI bp,gh bp,hc⟩,⟨aa,cI bp,gh bp,aa,aa,aa,cI (by decide),fun _ _=>.refl _,bp,h1,aa,h3,aa,h5,aa⟩,fun hout=>⟨aa,aa,?_⟩,fun hin=>⟨⟨aa,bp,bp,bp,bp,aa⟩,aa,?_⟩⟩
 ·refine⟨mB (u:=⟨0,0,0⟩) (by unfold fY;rw[if_pos (Ri hout)]) (by decide),.refl _,trivial⟩
 ·have ho:=Lp hin
  refine⟨mB (u:=(fu (ow ⟨c.p,c.n,c.k,c.m,fun i=>b9 (c.f i)⟩ t)).n) ?_ (by decide),bJ hin.symm,trivial⟩
  rw[W3]
  unfold fY ow
  rw[if_neg ho,if_neg ho];rfl
theorem Jw:aU P Hw mA (az mA):=aT Proofs.Tryz.func252 ah ah ah
def rB:aV:=nG::(tF,v9)::(DW,IX)::fK
abbrev CB:Code:=az mA
abbrev sk:Code:=part CB [1,1,1,1,0,1,0,0]
abbrev yV:Code:=part sk [1,1,0,0]
abbrev sB:Nat:=536870912
theorem wV:bn P rB:=dB (aI zF (aI Ok fZ))
def iL (n:Nat) (k:Nat->Rat) (p m l:Nat) (i:Int):Int:=if(m:Int)≠(n:Int)-p-1\/l≠p then 1 else if i<p\/(m:Int)<=i\/k (i.toNat+1)<=k i.toNat then 7 else 0
def mV (n:Nat) (k:Nat->Rat) (p m:Nat) (c:Nat->Rat) (i:Int) (l:Nat) (a:Nat->Rat):Rat:=if iL n k p m l i=0 then bR k (i.toNat-p) p a (fun j=>c (i.toNat-p+j)) p p else 0
abbrev Q0 (n:Nat) (k:Nat->Rat) (p m:Nat) (c:Nat->Rat) (i:Int) (l:Nat) (a:Nat->Rat):AV:=.tuple [.rat (mV n k p m c i l a) sB,.int .i64 (iL n k p m l i)]
theorem agC {n p m l:Nat} {k c a:Nat->Rat} {i e:Int} (h:iL n k p m l i=e) (he:e≠0):er [.agg [.bool false,.mag 0,.mag 0],.int .i64 e] (Q0 n k p m c i l a):=
 ⟨by unfold mV;rw[if_neg (by rw[h];exact he)];exact nh,bJ h.symm,trivial⟩
theorem O4 {n p m l:Nat} {k:Nat->Rat} {i:Int} (h:(m:Int)≠(n:Int)-p-1\/l≠p):iL n k p m l i=1:=if_pos h
theorem HZ {n p m l:Nat} {k:Nat->Rat} {i:Int} (h:(m:Int)=(n:Int)-p-1) (hl:l=p) (h2:i<p\/(m:Int)<=i\/k (i.toNat+1)<=k i.toNat):iL n k p m l i=7:=by
 unfold iL;rw[if_neg aa,if_pos h2]
theorem OZ {n p m l:Nat} {k:Nat->Rat} {i:Int} (h:(m:Int)=(n:Int)-p-1) (hl:l=p) (h2:¬(i<p\/(m:Int)<=i\/k (i.toNat+1)<=k i.toNat)):iL n k p m l i=0:=by
 unfold iL;rw[if_neg aa,if_neg h2]
def mq (k:Nat->Rat) (b p r:Nat) (t:Rat) (x:Nat->Rat) (j i:Nat):Rat:=if i<=j then x i else fT k b p r t x i
def ny (r j i:Nat):Nat:=if i<=j then SB r else SB (r+1)
theorem SG {rl:List (Nat×Nat)} {k:Nat->Rat} {b p r j i s:Nat} {t:Rat} {x:Nat->Rat} (hj:r<j) (hs:s<=SB (r+1)):
  gA rl (.rat (bif i==j then mq k b p r t x j (j-1)+fr (k (b+j)) (k (b+j+(p-r))) t*(mq k b p r t x j j-mq k b p r t x j (j-1))else mq k b p r t x j i) (bif i==j then s else ny r j i)) (.rat (mq k b p r t x (j-1) i) (ny r (j-1) i)):=by
 refine .inr ⟨rfl,?_⟩
 by_cases h:i=j
 ·subst h
  simp only[beq_self_eq_true,cond_true]
  refine bQ ?_ ?_
  ·unfold mq
   rw[if_pos aa,if_pos aa,if_neg aa]
   unfold fT
   rw[if_pos hj]
  ·unfold ny
   rw[if_neg aa];exact hs
 ·have hb:(i==j)=false:=by simpa using h
  rw[hb]
  refine bQ ?_ ?_
  ·simp only[cond_false]
   unfold mq
   by_cases h2:i<=j
   ·rw[if_pos h2,if_pos aa]
   ·rw[if_neg h2,if_neg aa]
  ·simp only[cond_false]
   unfold ny
   by_cases h2:i<=j
   ·rw[if_pos h2,if_pos aa];exact Nat.le_refl _
   ·rw[if_neg h2,if_neg aa];exact Nat.le_refl _
theorem acD {k:Nat->Rat} {b p r i:Nat} {t:Rat} {x:Nat->Rat}:mq k b p r t x r i=fT k b p r t x i:=by
 unfold mq
 split
 ·unfold fT;rw[if_neg aa]
 ·rfl
abbrev kT (m:Nat) (c:Nat->Rat):ax:=⟨true,true,3,m,fun i=>.rat (c i) sK⟩
abbrev nN:List Nat:=[10,11,2,4,0,1,3,12,66,67,68]
abbrev vm (n:Nat) (k:Nat->Rat) (p m:Nat) (a:Nat->Rat) (i:Nat) (r:Nat):List AV:=[.ptr 1 0 3 0 [],.int .i64 0,.own 0 3 0 m,ls a p,ls k n,.int .i64 p,.int .i64 i,.own 2 3 0 (p+1),ls a p,.int .i64 p,.int .i64 r]
abbrev ni (p m:Nat) (c:Nat->Rat) (x:Nat->Rat) (s:Nat->Nat):aE:=[(2,kP (p+1) x s),(1,zO),(0,kT m c)]
abbrev yG:List Nat:=[10,11,2,4,0,1,3,12,66,67,68,13,14,15]
abbrev Hl (n:Nat) (k:Nat->Rat) (p m:Nat) (a:Nat->Rat) (i:Nat) (r j:Nat):List AV:=[.ptr 1 0 3 0 [],.int .i64 0,.own 0 3 0 m,ls a p,ls k n,.int .i64 p,.int .i64 i,.own 2 3 0 (p+1),ls a p,.int .i64 p,.int .i64 r,.int .i64 r,.ptr 3 0 3 0 [],.int .i64 j]
theorem VT {n m p l:Nat} {k c a:Nat->Rat} {i:Int}:aJ T rB [18,25,36,42,32] 60 nN (before CB [1,1,1,1,0,1]) ⟨aQ 0 [ls k n,.int .i64 p,.own 0 3 0 m,.int .i64 i,ls a l],[(0,kT m c)],1⟩=
  let c28 : Prop := n < 2 ^ 40; let c27 : Prop := sK < 2 ^ 42; let c26 : Prop := bV (fun i => rat (k i) sK) n sK; let c25 : AV := own 0 3 0 m; let c24 : Int := i + (1 : Int); let c23 : AV := aq 3 n fun i => rat (k i) 4096; let c20 : Int := (2 : Int) ^ 40; let c19 : AV := rat 0 1; let c17 : Nat × ax := ((0 : Nat), ax.mk true true 3 m fun i => rat (c i) 4096); let c15 : AV := ptr 1 0 3 0 []; let c14 : AV := aq 3 l fun i => rat (a i) 4096; let c13 : Int := (2 : Int) ^ 63; let c12 : Int := (↑m : Int); let c5 : Int := (↑p : Int); let c21 : Bool := decide (i < c5); let c18 : Bool := c12 != (↑n : Int) - c5 - (1 : Int); let c16 : Bool := bif false then true else decide (i >= c12); let c11 : Int := c5 + (1 : Int); let c10 : Int := ek (k i.toNat) (k c24.toNat); let c8 : List AV := [c25, c14, c23, int i64 c5, int i64 i, tuple [], tuple [], tuple [], tuple []]; let c7 : List Prop := [(0 : Int) <= i /\ i.toNat < n, -c13 <= c24 /\ c24 < c13, (0 : Int) <= c24 /\ c24.toNat < n, c27, c27]; let c6 : List (Nat × ax) := [c17, ((1 : Nat), bg fun j => if (j == 0) = true then bA (agg c19.kids) else c19)]; let c22 : Bool := bif false then true else decide (c10 >= (0 : Int)); let c9 : Nat := 0 + Min.min (c12.toNat - (i - c5).toNat) c11.toNat; let c4 : ag (List AV × aE) := aj [(0 : Nat) < 1] (leaf ret (c15 :: int i64 (1 : Int) :: c8, c6)); let c2 : ag (List AV × aE) := aj [(0 : Nat) < 1] (leaf ret (c15 :: int i64 (7 : Int) :: c8, c6)); let c1 : ag (List AV × aE) := aj [-c13 <= c11 /\ c11 < c13, (0 : Int) <= c11 /\ c11 <= c11 /\ c11 <= (2 : Int) ^ 47 /\ c11 * (↑(56 : Nat) : Int) <= (2 : Int) ^ 47] (aj [-c13 <= i - c5 /\ i - c5 < c13, (0 : Int) <= i - c5 /\ i - c5 <= c12 /\ c12 <= c12 /\ c12 <= c12] (leaf normal ([c15, int i64 (0 : Int), c25, c14, c23, int i64 c5, int i64 i, own 163841 3 0 c11.toNat, c14, int i64 (↑l : Int), int i64 (0 : Int)], [((163841 : Nat), ax.mk true true 3 c11.toNat fun i_1 => if 0 <= i_1 /\ i_1 < c9 then rat (c (i_1 - 0 + ((0 : Nat) + (i - c5).toNat))) sK else c19), c17, ((1 : Nat), bg fun x => c19)]))); let c3 : ag (List AV × aE) := fork c21 (fork true (aj [c21 = true, true = true] (fork true c2 c1)) (aj ((c21 = true) :: (true = false) :: c7) (fork c22 c2 c1))) (fork c16 (aj [c21 = false, c16 = true] (fork true c2 c1)) (aj ((c21 = false) :: (c16 = false) :: c7) (fork c22 c2 c1))); some (fork c18 (aj [c26, c28, -c20 < c5, c5 < c20, c18 = true] (fork true c4 c3)) (aj [c26, c28, -c20 < c5, c5 < c20, c18 = false] (fork (bif false then true else (↑l : Int) != c5) c4 c3))) := ah
theorem aaQ {e:Int} {m:Nat} {c:Nat->Rat}:yd T mA .ret ⟨aF [10,11,2] [.ptr 1 0 3 0 [],.int .i64 e,.own 0 3 0 m],[(0,kT m c),(1,⟨false,true,3,1,fun j=>if(j==0)=true then bA (agg (kids (.rat 0 1)))else .rat 0 1⟩)],2⟩=
  some (aj [(0:Nat)<1] (leaf ret ([agg [AV.bool false,mag 0,mag 0],int i64 e],some (ax.mk true true 3 m fun i=>rat (c i) 4096)))):=ah
theorem YI {n p m i r:Nat} {k a c x:Nat->Rat} {s:Nat->Nat}:aJ T rB [69] 60 nN (before sk [1,1,0]) ⟨aF nN (vm n k p m a i r),ni p m c x s,3⟩=
  let c3:Int:=(↑p:Int);let c2:AV:=aq 3 p fun i=>rat (a i) 4096;let c1:List AV×aE:=([ptr 1 0 3 0 [],int i64 0,own 0 3 0 m,c2,aq 3 n fun i=>rat (k i) 4096,int i64 c3,int i64 (↑i:Int),own 2 3 0 (p+1),c2,int i64 c3,int i64 (↑r:Int)],[(2,ax.mk true true 3 (p+1) fun i=>rat (x i) (s i)),(0,ax.mk true true 3 m fun i=>rat (c i) 4096),((1:Nat),bg fun x=>rat 0 1)]);some (fork (decide ((↑r:Int)<c3)) (leaf normal c1) (leaf (exit 1) c1)):=ah
theorem WG {n p m i r:Nat} {k a c x:Nat->Rat} {s:Nat->Nat}:aJ T rB [] 60 yG (before yV [1,1]) ⟨aF nN (vm n k p m a i r),ni p m c x s,3⟩=
  let c4:AV:=rat 0 1;let c3:Int:=(↑r:Int);let c2:AV:=int i64 (↑p:Int);let c1:AV:=aq 3 p fun i=>rat (a i) 4096;some (aj [(0:Int)<=c3/\c3.toNat<p,(0:Nat)<1] (leaf normal ([ptr 1 0 3 0 [],int i64 0,own 0 3 0 m,c1,aq 3 n fun i=>rat (k i) 4096,c2,int i64 (↑i:Int),own 2 3 0 (p+1),c1,c2,int i64 c3,int i64 c3,ptr 12291 0 3 0 [],c2],[((12291:Nat),bg fun j=>if(j==0)=true then bA (rat (a c3.toNat) sK)else c4),(2,ax.mk true true 3 (p+1) fun i=>rat (x i) (s i)),(0,ax.mk true true 3 m fun i=>rat (c i) 4096),((1:Nat),bg fun x=>c4)]))):=ah
theorem ahh {n p m i r j:Nat} {k a c x:Nat->Rat} {s:Nat->Nat} {t:Rat}:aJ T rB [76] 60 yG [part yV [1,1,0,0]] ⟨aF yG (Hl n k p m a i r j),(3,tP t sK)::ni p m c x s,4⟩=
  let c27:Int:=(↑r:Int);let c23:Int:=(↑i:Int);let c21:AV:=own 0 3 0 m;let c19:Prop:=0<1;let c17:AV:=ptr 3 0 3 0 [];let c16:AV:=ptr 1 0 3 0 [];let c15:AV:=aq 3 n fun i=>rat (k i) 4096;let c13:Int:=(↑p:Int);let c12:Int:=(↑j:Int);let c11:Nat×ax:=((3:Nat),bg fun x=>rat t 4096);let c10:Nat:=2^42;let c8:Nat:=p+1;let c7:AV:=aq 3 p fun i=>rat (a i) 4096;let c6:List (Nat×ax):=[(0,ax.mk true true 3 m fun i=>rat (c i) 4096),((1:Nat),bg fun x=>rat 0 1)];let c3:Int:=(2:Int)^63;let c26:AV:=int i64 c13;let c24:Prop:=(0:Int)<=c12/\c12.toNat<c8;let c20:AV:=own 2 3 0 c8;let c14:AV:=int i64 c27;let c4:Nat:=c12.toNat+0;let c2:Int:=c23-c13+c12;let c1:Int:=c12-(1:Int);let c25:Prop:=(0:Int)<=c1/\c1.toNat<c8;let c22:Prop:=-c3<=c1/\c1<c3;let c9:Int:=c2+c13-c27;let c5:Nat:=c1.toNat+0;let c18:Nat:=s c4+s c5+1;some (fork (decide (c12>c27)) (aj [-c3<=c23-c13/\c23-c13<c3,-c3<=c2/\c2<c3] (aj [(0:Int)<=c2/\c2.toNat<n,-c3<=c2+c13/\c2+c13<c3,-c3<=c9/\c9<c3,(0:Int)<=c9/\c9.toNat<n,c19,sK<=sK,sK<=sK,sK<=sK,c19] (aj [c22,c25,c5<c8,c19,c24,c4<c8,c22,c25,c5<c8,s c4<c10,s c5<c10,sF<c10,c18<c10,s c5<c10,sF+c18<c10,c24,c4<c8] (aj [c22] (leaf normal ([c16,int i64 0,c21,c7,c15,c26,int i64 c23,c20,c7,c26,c14,c14,c17,int i64 c1],c11::(2,ax.mk true true 3 c8 fun j=>rat (bif j==c4 then x c5+fr (k c2.toNat) (k c9.toNat) t*(x c4-x c5)else x j) (bif j==c4 then s c5+(sF+c18)+1 else s j))::c6)))))) (leaf (exit 3) ([c16,int i64 0,c21,c7,c15,c26,int i64 c23,c20,c7,c26,c14,c14,c17,int i64 c12],c11::(2,ax.mk true true 3 c8 fun i=>rat (x i) (s i))::c6))):=ah
theorem UU {n p m i r j:Nat} {k a c x:Nat->Rat} {s:Nat->Nat} {t:Rat}:aJ T rB [] 60 nN [part sk [1,1,1]] ⟨aF yG (Hl n k p m a i r j),(3,tP t sK)::ni p m c x s,4⟩=
  let c2:Int:=(↑r:Int)+(1:Int);let c1:AV:=aq 3 p fun i=>rat (a i) 4096;some (aj [-(2:Int)^63<=c2/\c2<(2:Int)^63] (leaf normal ([ptr 1 0 3 0 [],int i64 0,own 0 3 0 m,c1,aq 3 n fun i=>rat (k i) 4096,int i64 (↑p:Int),int i64 (↑i:Int),own 2 3 0 (p+1),c1,int i64 (↑p:Int),int i64 c2],[(2,ax.mk true true 3 (p+1) fun i=>rat (x i) (s i)),(0,ax.mk true true 3 m fun i=>rat (c i) 4096),((1:Nat),bg fun x=>rat 0 1)]))):=ah
theorem adI {n p m i r:Nat} {k a c x:Nat->Rat} {s:Nat->Nat}:Eu T rB [] 60 mA [part CB [1,1,1,1,1]] ⟨aF nN (vm n k p m a i r),ni p m c x s,3⟩=
  let c1:Nat:=(↑p:Int).toNat+0;some (aj [(0:Int)<=(↑p:Int)/\(↑p:Int).toNat<p+1,c1<p+1,s c1<2^42,(1:Nat)<2^42,(0:Nat)<1] (aj [(0:Nat)<1] (leaf ret ([rat (x c1+0) (s c1+1+1),int i64 0],some (ax.mk true true 3 m fun i=>rat (c i) 4096))))):=ah
theorem abk {n p m l:Nat} {k c a:Nat->Rat} {i:Int} (hp1:1<=p) (hp6:p<=6) (hn:n<2^40) (hm2:m<2^40) (hi:-2^40<i) (hi2:i<2^40) (cx:Ctx) (hk:Kept [0] cx):
  ay P cx mA.ntmps (az mA) ⟨aQ 0 [ls k n,.int .i64 p,.own 0 3 0 m,.int .i64 i,ls a l],[(0,kT m c)],1⟩ (dX cx (yO T mA [.rat (mV n k p m c i l a) sB,.int .i64 (iL n k p m l i)] (kT m c))):=by
 obtain⟨b,hb⟩:∃b,b=i.toNat-p:=⟨_,rfl⟩
 obtain⟨x,hx⟩:∃x:Nat->Nat->Rat,x=fun r=>bR k b p a (fun j=>c (b+j)) r:=⟨_,rfl⟩
 have hx0:x 0=fun j=>c (b+j):=by rw[hx];rfl
 have hxS:∀r,x (r+1)=fT k b p r (a r) (x r):=fun r=>by rw[hx];rfl
 have hSF:=C5
 have hSK:sK=4096:=rfl
 have hSV:sV=268435456:=rfl
 have hrow:∀(l:Nat) (a:Nat->Rat) (w:Bool) (ρ:Nat->Option Nat),cM ρ ⟨true,w,3,l,fun i=>.rat (a i) sK⟩ ⟨true,w,3,l,fun i=>.rat (a i) sK⟩:=fun l a w ρ=>iA rfl fun _ _=>aK rfl
 refine ay.Dr hT wV hm [1,1,1,1,0,1] (i:=1) (y:=sk) (z:=part CB [1,1,1,1,1]) ah ah ah Jw.dst hk (f1:=[18,25,36,42,32]) 60 nN 3 (fun r:Nat=>vm n k p m a i.toNat r) (fun r=>ni p m c (x r) fun _=>SB r)
  (fun r=>r<=p/\iL n k p m l i=0) (fun r=>r=p/\iL n k p m l i=0) (fun r=>p-r) (DC T mA [10,11,2] [.rat (mV n k p m c i l a) sB,.int .i64 (iL n k p m l i)] (kT m c)) ⟨_,VT,?_⟩ (fun r ⟨hr,he⟩=>?_) (fun r ⟨hr,he⟩=>?_) (fun v s' hv hs'=>hv.fin (L1:=[4,0,1,3,12,66,67,68]) hk hs')
 ·simp only[ag.all,aA,yW,bne_iff_ne,ne_eq,bne_eq_false_iff_eq,aX,cond_false,bf,bt,DV]
  have ret:∀{e:Int} {us:List AV},iL n k p m l i=e->e≠0->bu us=[]->DC T mA [10,11,2] [.rat (mV n k p m c i l a) sB,.int .i64 (iL n k p m l i)] (kT m c) ([ptr 1 0 3 0 [],int i64 e,own 0 3 0 m]++us,[((0:Nat),kT m c),((1:Nat),bg fun j=>if(j==0)=true then bA (agg (kids (.rat 0 1)))else .rat 0 1)]):=fun {e us} h1 h2 h3=>
   ⟨[_,_,_],us,2,_,rfl,rfl,h3,aaQ,rfl,⟨⟨aa,fun i _=>rfl⟩,⟨aa,fun i _=>xy rfl rfl⟩,trivial⟩,aa,Nat.zero_lt_one,rfl,rfl,agC h1 h2,⟨_,rfl,hrow _ _ _⟩⟩
  (repeat' with_reducible first|refine And.intro ?_ ?_|intro _)
  all_goals first|omega|exact cI bp|exact absurd ‹true=false› (by decide)|assumption|skip
  all_goals first|exact ret (O4 (.inl ‹_›)) (by decide) rfl|exact ret (O4 (.inr aa)) (by decide) rfl|skip
  all_goals first|exact ret (HZ aa aa (.inl aa)) (by decide) rfl|exact ret (HZ aa aa (.inr (.inl aa))) (by decide) rfl|skip
  all_goals have e1:(i+1).toNat=i.toNat+1:=aa
  ·exact ret (HZ aa aa (.inr (.inr (by rw[<-e1];assumption)))) (by decide) rfl
  ·rename_i h1
   rw[e1]at h1
   have hlp:l=p:=aa
   subst hlp
   refine⟨0,⟨aa,OZ aa rfl (by rintro(h|h|h)<;>first|omega|exact h1 h)⟩,[(0,0),(1,1),(2,163841)],rfl,?_,rfl,bO rfl rfl aa (fun j hj=>?_) (aO (bO rfl rfl rfl (fun j hj=>cB rfl rfl) trivial))⟩
   ·rw[show((l:Int)+1).toNat=l+1 by omega]
    show _=[_,_,_,_,_,_,AV.int i64 ((i.toNat:Nat):Int),_,_,_,_]
    rw[show((i.toNat:Nat):Int)=i by omega]
    rfl
   ·rw[if_pos aa,hx0,show(i-(l:Int)).toNat=b by omega,Nat.sub_zero,Nat.zero_add,Nat.add_comm j b]
    exact .inr ⟨rfl,bQ rfl (show sK<=SB 0 by decide)⟩
 ·have hin:(m:Int)=(n:Int)-p-1/\p<=i.toNat/\i.toNat<m/\i.toNat=b+p/\l=p:=by
   unfold iL at he
   split at he
   ·omega
   ·split at he
    ·omega
    ·omega
  obtain⟨i1,i2,i3,i4,i5⟩:=hin
  subst i5
  have hr4:∀{s:Nat->Nat} {y:Nat->Rat},kg 3 [(0,0),(1,1),(2,2)] [(2,ax.mk true true 3 (l+1) fun i=>rat (y i) (s i)),((0:Nat),kT m c),((1:Nat),bg fun x=>rat 0 1)] (ni l m c y s):=bO rfl rfl rfl (fun j hj=>cB rfl rfl) (aO (bO rfl rfl rfl (fun j hj=>cB rfl rfl) trivial))
  refine ay.tY hT wV hm (y:=sk) (x1:=yV) (zb:=part sk [1,1,1]) [1,1,0] (j:=2) ah ah ah ah hk (f1:=[69]) 60 nN 3 (fun _:Unit=>vm n k l m a i.toNat r) (fun _=>ni l m c (x r) fun _=>SB r) (fun _=>r<l) ⟨_,YI,?_⟩ (fun _ hr'=>?_)
  ·simp only[ag.all,aA,bf,bt]
   have re:∀{s:Nat->Nat} {y:Nat->Rat},eu [0] ([ptr 1 0 3 0 [],int i64 0,own 0 3 0 m,ls a l,aq 3 n fun i=>rat (k i) sK,int i64 l,int i64 (i.toNat:Nat),own 2 3 0 (l+1),ls a l,int i64 l,int i64 (r:Nat)],[(2,ax.mk true true 3 (l+1) fun i=>rat (y i) (s i)),((0:Nat),kT m c),((1:Nat),bg fun x=>rat 0 1)]) (vm n k l m a i.toNat r) (ni l m c y s) 3:=
    ⟨[(0,0),(1,1),(2,2)],rfl,rfl,rfl,hr4⟩
   exact⟨fun h1=>⟨(),aa,re⟩,fun h1 s' hs'=>⟨rfl,r,⟨aa,he⟩,re.le hs' hk⟩⟩
  have h1:=uq (d:=r)
  have h2:=yh (d:=r) aa
  have h3:=Ag (d:=r)
  refine ay.vH hT wV hm (x:=yV) [1,1] (i:=3) (y:=part yV [1,1,0,0]) ah ah ah hk (f1:=[]) (f2:=[76]) 60 yG 4 (fun j:Nat=>Hl n k l m a i.toNat r j) (fun j=>(3,tP (a r) sK)::ni l m c (mq k b l r (a r) (x r) j) (ny r j)) (fun j=>r<=j/\j<=l) (fun j=>j=r) (fun j=>j) (fun _=>False) ⟨_,WG,?_⟩ (fun j hj=>⟨_,ahh,?_⟩) (fun j s' hj hle=>?_) (fun _ _ h=>h.elim)
  ·simp only[ag.all,aA,aX]
   refine⟨⟨aa,aa⟩,l,aa,[(0,0),(1,1),(2,2),(3,12291)],rfl,rfl,rfl,aO (bO rfl rfl rfl (fun j hj=>cB rfl ?_) (aO (bO rfl rfl rfl (fun j hj=>cB rfl rfl) trivial)))⟩
   unfold mq ny
   rw[if_pos aa,if_pos aa]
  ·obtain⟨hj1,hj2⟩:=hj
   have e1:((i.toNat:Nat):Int)-(l:Int)+(j:Int)=((b+j:Nat):Int):=aa
   have e2:((b+j:Nat):Int)+(l:Int)-(r:Int)=((b+j+(l-r):Nat):Int):=aa
   have u1:∀{j':Nat},j'<=j->ny r j j'=SB r:=fun h=>by unfold ny;rw[if_pos h]
   simp only[ag.all,aA,bf,bt,e1,e2,aX,Nat.add_zero]
   refine⟨fun h4=>?_,fun h4=>⟨rfl,j,aa,[(0,0),(1,1),(2,2),(3,3)],rfl,rfl,rfl,aO (bO rfl rfl rfl (fun j hj=>cB rfl rfl) (aO (bO rfl rfl rfl (fun j hj=>cB rfl rfl) trivial)))⟩⟩
   have e3:((j:Int)-1).toNat=j-1:=aa
   have u2:=u1 (j':=j) bp
   have u3:=u1 (j':=j-1) aa
   simp only[e3,u2,u3]
   (repeat' with_reducible refine And.intro ?_ ?_)
   all_goals first|omega|skip
   exact⟨j-1,aa,by dsimp only;omega,[(0,0),(1,1),(2,2),(3,3)],rfl,by rw[show(j:Int)-1=((j-1:Nat):Int) by omega];rfl,rfl,aO (bO rfl rfl rfl (fun q hq=>SG aa aa) (aO (bO rfl rfl rfl (fun j hj=>cB rfl rfl) trivial)))⟩
  ·subst hj
   show ay P cx mA.ntmps (part sk [1,1,1]) s' _
   refine ay.lT hle (ay.bz hT wV hm 60 nN UU ah ?_)
   simp only[ag.all,aA]
   refine⟨aa,fun s' hs'=>⟨j+1,⟨aa,he⟩,by dsimp only;omega,eu.le ⟨[(0,0),(1,1),(2,2)],rfl,rfl,rfl,bO rfl rfl rfl (fun q hq=>?_) (aO (bO rfl rfl rfl (fun j hj=>cB rfl rfl) trivial))⟩ hs' hk⟩⟩
   refine .inr ⟨rfl,bQ (by rw[acD,hxS]) ?_⟩
   show ny j j q<=SB (j+1)
   unfold ny
   split<;>omega
 ·have hlp:l=p:=by
   unfold iL at he
   split at he
   ·omega
   ·omega
  subst hlp
  subst hr
  refine ay.mC ((aG.Um hT wV hm 60 adI ah ?_).mono fun _ _ h=>.inl h)
  have h2:=yh (d:=r) hp6
  simp only[ag.all,aA,aX,Nat.add_zero]
  refine⟨⟨aa,aa,aa,aa,aa⟩,aa,rfl,rfl,⟨bQ ?_ (by show SB r+1+1<=536870912;omega),bJ he.symm,trivial⟩,⟨_,rfl,hrow _ _ _⟩⟩
  unfold mV
  rw[if_pos he,<-hb,hx,Rat.add_zero]
def tg (f:Nat->AV) (n s:Nat):Prop:=∀i,i<n->keys (f i)=[]/\bD (f i) (.rat (aZ (f i)) s)
theorem aeo {k:Nat->Rat} {n s s':Nat} (h:s<=s'):tg (fun i=>.rat (k i) s) n s':=fun _ _=>⟨rfl,fJ h⟩
theorem tg.obj {f:Nat->AV} {n s:Nat} {w:Bool} (h:tg f n s) {m:Nat} (hm:n=m) (ρ:Nat->Option Nat):cM ρ ⟨true,w,3,n,f⟩ ⟨true,w,3,m,fun i=>.rat (aZ (f i)) s⟩:=⟨rfl,rfl,rfl,hm.symm,fun i hi=>nB (h i hi).1 (h i hi).2⟩
def Fi:Spec:=fun _ args pre=>match args,pre with
 |[.aq 3 n kf,.int .i64 p,.own b 3 0 m,.int .i64 i,.aq 3 l af],[(b',⟨true,true,3,mb,fb⟩)]=>match b'==b with
  |true=>some ⟨Q0 n (fun i=>aZ (kf i)) p.toNat m (fun i=>aZ (fb i)) i l (fun i=>aZ (af i)),[(b,kT m fun i=>aZ (fb i))],
   [mb=m,bV kf n sK,bV af l sK,tg fb m sK,1<=p,p<=6,n<2^40,m<2^40,-2^40<i,i<2^40]⟩
  |false=>none
 |_,_=>none
theorem aiM:∀K args pre r,Fi K args pre=some r->aD P Hw K args pre r:=by
 intro K args pre r h
 unfold Fi at h
 split at h
 ·rename_i n kf p b m i l af b' mb fb
  split at h
  ·rename_i hc
   have hc:=eq_of_beq hc
   subst hc
   simp only[au]at h
   subst h
   intro need
   obtain⟨rfl,n1,n2,n3,n4,n5,n6,n7,n8,n9⟩:=need
   refine U1 hT Jw (args:=[.aq 3 n kf,.int .i64 p,.own b' 3 0 mb,.int .i64 i,.aq 3 l af]) (us:=[.rat (mV n (fun i=>aZ (kf i)) p.toNat mb (fun i=>aZ (fb i)) i l (fun i=>aZ (af i))) sB,.int .i64 (iL n (fun i=>aZ (kf i)) p.toNat mb l i)]) (args0:=[ls (fun i=>aZ (kf i)) n,.int .i64 p,.own 0 3 0 mb,.int .i64 i,ls (fun i=>aZ (af i)) l]) aW
    ⟨⟨rfl,nB rfl (HL n1)⟩,⟨rfl,aK rfl⟩,⟨rfl,cP rfl rfl rfl⟩,⟨rfl,aK rfl⟩,⟨rfl,nB rfl (HL n2)⟩,trivial⟩ (fun _ ρ=>n3.obj rfl ρ) (fun _ c hk=>?_) K ⟨rfl,n1,n2,n3,n4,n5,n6,n7,n8,n9⟩
   have:=abk (n:=n) (p:=p.toNat) (m:=mb) (l:=l) (k:=fun i=>aZ (kf i)) (c:=fun i=>aZ (fb i)) (a:=fun i=>aZ (af i)) (i:=i) aa aa n6 n7 n8 n9 c hk
   rw[Int.toNat_of_nonneg aa]at this
   exact this
  ·simp at h
 ·simp at h
theorem aez:aU P BL BC (az BC):=aT Proofs.Tryz.func189 ah ah ah
theorem LG:aU P BB p8 (az p8):=aT Proofs.Tryz.func190 ah ah ah
def qN (k:Nat->Rat) (n:Nat):Nat->Nat->Nat
 |0,i=>i
 |f+1,i=>if i+1<n/\k (i+1)<=k i then qN k n f (i+1)else i
def gU (k:Nat->Rat) (n i:Nat):Nat:=qN k n (n-i) i
abbrev xU:List Nat:=[0,1,4]
abbrev Ht (n i:Nat) (k:Nat->Rat):List AV:=[ls k n,.int .i64 i,.int .i64 0]
abbrev vD:Code:=az BC
def cR (h:Pl):Nat->Rat
 |0=>h.n.x
 |1=>h.n.y
 |2=>h.n.z
 |_=>h.d
def oo (g:Nat->Rat):Nat->Pl
 |0=>⟨⟨0,0,0⟩,0⟩
 |1=>⟨⟨g 0,0,0⟩,0⟩
 |2=>⟨⟨g 0,g 1,0⟩,0⟩
 |3=>⟨⟨g 0,g 1,g 2⟩,0⟩
 |_=>⟨⟨g 0,g 1,g 2⟩,g 3⟩
def iB (c:Cu) (i:Int) (l:Nat) (g:Nat->Rat) (a:Nat):Rat:=mV c.n c.k c.p.toNat c.m (fun j=>cR (c.f j) a) i l g
def qQ (c:Cu) (i:Int) (l:Nat) (g:Nat->Rat):Pl:=⟨⟨iB c i l g 0,iB c i l g 1,iB c i l g 2⟩,iB c i l g 3⟩
def ov (c:Cu) (a:Nat) (x:Nat->Rat) (j q:Nat):Rat:=if q<j\/c.m<=q then cR (c.f q) a else x q
theorem Ys {c:Cu} {a:Nat} {x:Nat->Rat}:ov c a x c.m=fun q=>cR (c.f q) a:=by
 funext q;unfold ov;rw[if_pos aa]
def o7:aV:=nG::(Hw,Fi)::fK
abbrev iX:List Nat:=[1,2,3,6,7,8,16]
abbrev kV (c:Cu) (i:Int) (l:Nat) (g:Nat->Rat) (a:Nat):List AV:=[.int .i64 i,ls g l,.ptr 0 0 3 0 [],.ptr 1 0 12 0 [],.ptr 2 0 12 0 [],.own 3 3 0 c.m,.int .i64 a]
abbrev xo:List Nat:=[1,2,3,6,7,8,16,9,20,21,22]
abbrev Ao (c:Cu) (i:Int) (l:Nat) (g:Nat->Rat) (a j:Nat):List AV:=[.int .i64 i,ls g l,.ptr 0 0 3 0 [],.ptr 1 0 12 0 [],.ptr 2 0 12 0 [],.own 3 3 0 c.m,.int .i64 a,.int .i64 a,rj c.f c.m sK,.int .i64 c.m,.int .i64 j]
abbrev jj (c:Cu) (x:Nat->Rat) (h:Pl):aE:=[(3,kT c.m x),(2,mh h sB),(1,mh ⟨⟨0,0,0⟩,0⟩ 1),(0,oG c sK)]
abbrev Cv:Code:=az p8
abbrev ot:Code:=part Cv [1,1,1,0,1,0,0]
abbrev oe:Code:=part ot [1,1,0,0]
theorem Wm {n i:Nat} {k:Nat->Rat}:aJ T (nG::fK) [] 60 xU (before vD [1,0]) ⟨aQ 0 [ls k n,.int .i64 i],[],0⟩=
  some (leaf normal ([aq 3 n fun i=>rat (k i) 4096,int i64 (↑i:Int),int i64 0],[])):=ah
theorem ags {n i:Nat} {k:Nat->Rat}:aJ T (nG::fK) [10,22] 60 xU [part vD [1,0,0,0]] ⟨aF xU (Ht n i k),[],0⟩=
  let c9:Prop:=sK<2^42;let c8:Int:=(↑i:Int);let c3:AV:=aq 3 n fun i=>rat (k i) 4096;let c4:ag (List AV×aE):=leaf (exit 0) ([c3,int i64 c8,int i64 0],[]);let c1:Int:=c8+(1:Int);let c7:Int:=ek (k c8.toNat) (k c1.toNat);let c6:Bool:=decide (c1<(↑n:Int));let c2:Prop:=-(2:Int)^63<=c1/\c1<(2:Int)^63;let c5:ag (List AV×aE):=aj [c2] (leaf normal ([c3,int i64 c1,int i64 0],[]));some (fork c6 (aj [c2,c6=true,(0:Int)<=c8/\c8.toNat<n,c2,(0:Int)<=c1/\c1.toNat<n,c9,c9] (fork (bif true then decide (c7>=(0:Int))else false) c5 c4)) (aj [c2,c6=false] (fork false c5 c4))):=ah
theorem ahr {n i:Nat} {k:Nat->Rat}:cJ T (nG::fK) [] 60 BC [part vD [1,1]] ⟨aF xU (Ht n i k),[],0⟩=
  some (leaf ret [int i64 (↑i:Int)]):=ah
theorem TY {c:Cu} {i:Int} {l:Nat} {g:Nat->Rat}:aJ T o7 [] 60 iX (before Cv [1,1,1,0,1]) ⟨aQ 0 [dL c sK sK,.int .i64 i,ls g l],[],0⟩=
  let c4:Nat:=(bA (dL c sK sK)).size;let c3:Int:=(↑c.m:Int);let c1:AV:=rat 0 1;let c2:ax:=ax.mk false true 12 1 fun x=>agg [c1,c1,c1,c1];some (aj [(0:Nat)<1,(0:Int)<=c3/\c3<=c3/\c3<=(2:Int)^47/\c3*(↑(56:Nat):Int)<=(2:Int)^47] (leaf normal ([int i64 i,aq 3 l fun i=>rat (g i) 4096,ptr 0 0 c4 0 [],ptr 4096 0 12 0 [],ptr 8192 0 12 0 [],own 24576 3 0 c3.toNat,int i64 0],[(24576,ax.mk true true 3 c3.toNat fun x=>c1),((8192:Nat),c2),((4096:Nat),c2),(0,ax.mk false true c4 1 fun x=>agg [int i64 c.p,aq 3 c.n fun i=>rat (c.k i) 4096,aq 12 c.m fun i=>agg [rat (c.f i).n.x 4096,rat (c.f i).n.y 4096,rat (c.f i).n.z 4096,rat (c.f i).d 4096]])]))):=ah
theorem V8 {c:Cu} {i:Int} {l a:Nat} {g x:Nat->Rat} {h:Pl}:aJ T o7 [17] 60 iX (before ot [1,1,0]) ⟨aF iX (kV c i l g a),jj c x h,4⟩=
  let c2:AV:=rat 0 1;let c1:List AV×aE:=([int i64 i,aq 3 l fun i=>rat (g i) 4096,ptr 0 0 3 0 [],ptr 1 0 12 0 [],ptr 2 0 12 0 [],own 3 3 0 c.m,int i64 (↑a:Int)],[(3,ax.mk true true 3 c.m fun i=>rat (x i) 4096),(2,ax.mk false true 12 1 fun x=>agg [rat h.n.x 536870912,rat h.n.y 536870912,rat h.n.z 536870912,rat h.d 536870912]),(1,ax.mk false true 12 1 fun x=>agg [c2,c2,c2,c2]),((0:Nat),bg fun x=>agg [int i64 c.p,aq 3 c.n fun i=>rat (c.k i) 4096,aq 12 c.m fun i=>agg [rat (c.f i).n.x 4096,rat (c.f i).n.y 4096,rat (c.f i).n.z 4096,rat (c.f i).d 4096]])]);some (fork (decide ((↑a:Int)<(4:Int))) (leaf normal c1) (leaf (exit 0) c1)):=ah
theorem Zp {c:Cu} {i:Int} {l a:Nat} {g x:Nat->Rat} {h:Pl}:aJ T o7 [] 60 xo (before oe [1,0,1]) ⟨aF iX (kV c i l g a),jj c x h,4⟩=
  let c2:AV:=rat 0 1;let c1:AV:=aq 12 c.m fun i=>agg [rat (c.f i).n.x 4096,rat (c.f i).n.y 4096,rat (c.f i).n.z 4096,rat (c.f i).d 4096];some (aj [(0:Nat)<1] (leaf normal ([int i64 i,aq 3 l fun i=>rat (g i) 4096,ptr 0 0 3 0 [],ptr 1 0 12 0 [],ptr 2 0 12 0 [],own 3 3 0 c.m,int i64 (↑a:Int),int i64 (↑a:Int),c1,int i64 (↑c.m:Int),int i64 0],[(3,ax.mk true true 3 c.m fun i=>rat (x i) 4096),(2,ax.mk false true 12 1 fun x=>agg [rat h.n.x 536870912,rat h.n.y 536870912,rat h.n.z 536870912,rat h.d 536870912]),(1,ax.mk false true 12 1 fun x=>agg [c2,c2,c2,c2]),((0:Nat),bg fun x=>agg [int i64 c.p,aq 3 c.n fun i=>rat (c.k i) 4096,c1])]))):=ah
theorem WJ {c:Cu} {i:Int} {l a:Nat} {g x:Nat->Rat} {h:Pl}:aJ T o7 [] 60 iX [part ot [1,1,1]] ⟨aF iX (kV c i l g a),jj c x h,4⟩=
  let c2:Int:=(↑a:Int)+(1:Int);let c1:AV:=rat 0 1;some (aj [-(2:Int)^63<=c2/\c2<(2:Int)^63] (leaf normal ([int i64 i,aq 3 l fun i=>rat (g i) 4096,ptr 0 0 3 0 [],ptr 1 0 12 0 [],ptr 2 0 12 0 [],own 3 3 0 c.m,int i64 c2],[(3,ax.mk true true 3 c.m fun i=>rat (x i) 4096),(2,ax.mk false true 12 1 fun x=>agg [rat h.n.x 536870912,rat h.n.y 536870912,rat h.n.z 536870912,rat h.d 536870912]),(1,ax.mk false true 12 1 fun x=>agg [c1,c1,c1,c1]),((0:Nat),bg fun x=>agg [int i64 c.p,aq 3 c.n fun i=>rat (c.k i) 4096,aq 12 c.m fun i=>agg [rat (c.f i).n.x 4096,rat (c.f i).n.y 4096,rat (c.f i).n.z 4096,rat (c.f i).d 4096]])]))):=ah
theorem Uc {c:Cu} {i:Int} {l a:Nat} {g x:Nat->Rat} {h:Pl}:cJ T o7 [] 60 p8 [part Cv [1,1,1,1]] ⟨aF iX (kV c i l g a),jj c x h,4⟩=
  let c1:Prop:=0<1;some (aj [c1,c1] (aj [c1] (leaf ret [agg [rat h.n.x 536870912,rat h.n.y 536870912,rat h.n.z 536870912,rat h.d 536870912]]))):=ah
theorem acV {k:Nat->Rat} {n i:Nat} (h:i+1<n) (h2:k (i+1)<=k i):gU k n i=gU k n (i+1):=by
 unfold gU;rw[show n-i=(n-(i+1))+1 by omega,qN,if_pos ⟨h,h2⟩]
theorem MB {k:Nat->Rat} {n i:Nat} (h:¬(i+1<n/\k (i+1)<=k i)):gU k n i=i:=by
 unfold gU
 cases n-i with
 |zero=>rfl
 |succ f=>rw[qN,if_neg h]
theorem abd {n i:Nat} {k:Nat->Rat} (hi:i<=n) (hn:n<2^40) (K:Nat):aD P BL K [ls k n,.int .i64 i] [] (aL (.int .i64 (gU k n i)) []):=by
 refine g8 (r:=aL (.int .i64 (gU k n i)) []) hT (dB fZ) hm aez rfl aW rfl [1,0] (i:=0) (y:=part vD [1,0,0,0]) (z:=part vD [1,1]) ah ah ah (f1:=[]) (f2:=[10,22]) (f3:=[]) 60 xU 0
  (fun j:Nat=>Ht n j k) (fun _=>[]) (fun j=>j<=n/\gU k n j=gU k n i) (fun j=>j=gU k n i) (fun j=>n-j) (fun _=>⟨⟨_,Wm,?_⟩,fun j hj=>⟨_,ags,?_⟩,fun j hj=>⟨_,ahr,?_⟩⟩) K []
 ·simp only[ag.all,aA]
  exact⟨i,⟨hi,rfl⟩,[],rfl,rfl,rfl,trivial⟩
 ·have e1:((j:Int)+1).toNat=j+1:=aa
  simp only[ag.all,aA,bf,bt,aX,cond_true,e1,DV]
  refine⟨fun h1=>⟨⟨aa,aa,aa,aa,aa,by decide,by decide⟩,fun h2=>⟨aa,j+1,⟨aa,(acV aa h2).symm.trans hj.2⟩,by dsimp only;omega,[],rfl,rfl,rfl,trivial⟩,fun h2=>⟨rfl,j,?_,[],rfl,rfl,rfl,trivial⟩⟩,fun h1=>⟨⟨aa,aa⟩,fun h=>absurd h (by decide),fun _=>⟨rfl,j,?_,[],rfl,rfl,rfl,trivial⟩⟩⟩
  ·exact(MB fun h=>h2 h.2).symm.trans hj.2
  ·exact(MB fun h=>aa).symm.trans hj.2
 ·subst hj
  simp only[ag.all,aA]
  exact .refl _
def Na:Spec:=dj (kC (kL sK) (kC kI kN)) (fun a=>.int .i64 (gU a.1.2 a.1.1 a.2.1.toNat)) fun a=>[0<=a.2.1,a.2.1<=a.1.1,a.1.1<2^40]
theorem RX:∀K args pre r,Na K args pre=some r->aD P BL K args pre r:=cY fun⟨⟨n,k⟩,i,_⟩ K hn=>by
 obtain⟨h1,h2,h3⟩:=hn
 have:=abd (n:=n) (i:=i.toNat) (k:=k) (by dsimp only at*;omega) h3 K
 rw[Int.toNat_of_nonneg h1]at this
 exact this
theorem vi:bn P o7:=dB (aI aiM fZ)
def v8 (c:Cu):Nat->Nat->Rat
 |0=>fun _=>0
 |a+1=>fun q=>cR (c.f q) a
theorem aft {rl:List (Nat×Nat)} {c:Cu} {a:Nat} {x:Nat->Rat} {q:Nat} (hq:q<c.m):gA rl (.rat (x q) sK) (.rat (ov c a x 0 q) sK):=cB rfl (by unfold ov;rw[if_neg aa])
theorem Tr {rl:List (Nat×Nat)} {c:Cu} {a j:Nat} {x:Nat->Rat} {q:Nat} {v:Rat} (hq:q<c.m) (hv:v=cR (c.f j) a):gA rl (.rat (bif q==j then v else ov c a x j q) (bif q==j then sK else sK)) (.rat (ov c a x (j+1) q) sK):=by
 refine cB rfl ?_
 rw[Bool.cond_self]
 congr 1
 by_cases h:q=j
 ·subst h
  rw[beq_self_eq_true,cond_true,hv];unfold ov;rw[if_pos aa]
 ·rw[beq_eq_false_iff_ne.2 h,cond_false];unfold ov
  by_cases h2:q<j
  ·rw[if_pos (.inl h2),if_pos (.inl aa)]
  ·rw[if_neg aa,if_neg aa]
theorem aeC {x:Nat->Rat} {m:Nat}:tg (fun i=>.rat (x i) sK) m sK:=aeo bp
theorem four {a:Nat} (ha:a<4):a=0\/a=1\/a=2\/a=3:=aa
theorem T3 {c:Cu} {i:Int} {l a j:Nat} {g x:Nat->Rat} {h:Pl} (ha:a<4):aJ T o7 [23] 60 xo [part oe [1,0,1,0,0]] ⟨aF xo (Ao c i l g a j),jj c x h,4⟩=
  some (fork (decide ((j:Int)<c.m)) (aj [(0:Int)<=j/\(j:Int).toNat<c.m,0<1] (aj [(0:Int)<=a/\(a:Int)<(4:Nat),0<1,(0:Int)<=j/\(j:Int).toNat<c.m,(j:Int).toNat+0<c.m] (aj [-(2:Int)^63<=(j:Int)+1/\(j:Int)+1<(2:Int)^63]
   (leaf normal ([.int .i64 i,ls g l,.ptr 0 0 3 0 [],.ptr 1 0 12 0 [],.ptr 2 0 12 0 [],.own 3 3 0 c.m,.int .i64 a,.int .i64 a,rj c.f c.m sK,.int .i64 c.m,.int .i64 ((j:Int)+1)],(3,⟨true,true,3,c.m,fun q=>.rat (bif q==(j:Int).toNat+0 then cR (c.f (j:Int).toNat) a else x q) (bif q==(j:Int).toNat+0 then sK else sK)⟩)::[(2,mh h sB),(1,mh ⟨⟨0,0,0⟩,0⟩ 1),(0,oG c sK)]))))) (leaf (exit 2) (Ao c i l g a j,jj c x h))):=by
 rcases four ha with rfl|rfl|rfl|rfl<;>kernel_rfl
theorem adR {c:Cu} {i:Int} {l a j:Nat} {g x:Nat->Rat} {h:Pl} (ha:a<4):aJ T o7 [] 60 iX [part oe [1,1]] ⟨aF xo (Ao c i l g a j),jj c x h,4⟩=
  some (aj [0<1,0<1,c.m=c.m,bV (fun i=>.rat (c.k i) sK) c.n sK,bV (fun i=>.rat (g i) sK) l sK,tg (fun i=>.rat (x i) sK) c.m sK,(1:Int)<=c.p,c.p<=(6:Int),c.n<2^40,c.m<2^40,-(2:Int)^40<i,i<(2:Int)^40,(0:Int)<=a/\(a:Int)<(4:Nat),0<1]
   (leaf normal (kV c i l g a,[(3,kT c.m x),(2,⟨false,true,12,1,fun j=>if(j==0)=true then .agg ((cy h sB).kids.set a (.rat (mV c.n c.k c.p.toNat c.m x i l g) sB))else cy h sB⟩),(1,mh ⟨⟨0,0,0⟩,0⟩ 1),(0,oG c sK)]))):=by
 rcases four ha with rfl|rfl|rfl|rfl<;>kernel_rfl
theorem age {rl:List (Nat×Nat)} {G:Nat->Rat} {a:Nat} (ha:a<4):gA rl (.agg ((cy (oo G a) sB).kids.set a (.rat (G a) sB))) (cy (oo G (a+1)) sB):=by
 rcases four ha with rfl|rfl|rfl|rfl<;>exact cB rfl rfl
theorem aam {c:Cu} {i:Int} {l a:Nat} {g x:Nat->Rat} {cx:Ctx} {Q:ak->aH->Prop} (ha:a<4) (hk:Kept [] cx) (hp1:1<=c.p) (hp6:c.p<=6) (hn:c.n<2^40) (hm2:c.m<2^40) (hi:-2^40<i) (hi2:i<2^40)
  (hQ:∀s',(∃ρ,Le cx ρ s' ⟨aF iX (kV c i l g a),jj c (v8 c (a+1)) (oo (iB c i l g) (a+1)),4⟩)->ay P cx p8.ntmps (part ot [1,1,1]) s' Q):
  ay P cx p8.ntmps oe ⟨aF iX (kV c i l g a),jj c x (oo (iB c i l g) a),4⟩ (inBlock 1 (dM (fun s'=>ay P cx p8.ntmps (part ot [1,1,1]) s' Q) Q)):=by
 refine ay.vH hT vi hm (x:=oe) [1,0,1] (i:=2) (y:=part oe [1,0,1,0,0]) ah ah ah hk (f1:=[]) (f2:=[23]) 60 xo 4 (fun j:Nat=>Ao c i l g a j) (fun j=>jj c (ov c a x j) (oo (iB c i l g) a)) (fun j=>j<=c.m) (fun j=>j=c.m) (fun j=>c.m-j) (fun _=>False) ⟨_,Zp,?_⟩ (fun j hj=>⟨_,T3 ha,?_⟩) (fun j s' hj hle=>?_) (fun _ _ h=>h.elim)
 ·simp only[ag.all,aA]
  exact⟨aa,0,Nat.zero_le _,[(0,0),(1,1),(2,2),(3,3)],rfl,rfl,rfl,bO rfl rfl rfl (fun q hq=>aft hq) (aO (aO (aO trivial)))⟩
 ·simp only[ag.all,aA,bf,bt,aX,Nat.add_zero]
  exact⟨fun h1=>⟨⟨aa,aa⟩,⟨aa,aa,aa,aa⟩,aa,j+1,aa,by dsimp only;omega,[(0,0),(1,1),(2,2),(3,3)],rfl,rfl,rfl,bO rfl rfl rfl (fun q hq=>Tr hq rfl) (aO (aO (aO trivial)))⟩,
   fun h1=>⟨rfl,j,aa,[(0,0),(1,1),(2,2),(3,3)],rfl,rfl,rfl,bO rfl rfl rfl (fun q hq=>cB rfl rfl) (aO (aO (aO trivial)))⟩⟩
 ·subst hj
  simp only[Ys]at hle
  rw[show behind oe [1,0,1]=[part oe [1,1]]from by kernel_rfl]
  refine aG.weak rfl hle (aG.bz hT vi hm 60 iX (adR ha) ah ?_)
  simp only[ag.all,aA]
  refine⟨⟨aa,aa,trivial,cI bp,cI bp,aeC,hp1,hp6,hn,hm2,hi,hi2,aa,aa⟩,fun s'' hs''=>hQ s'' (eu.le ⟨[(0,0),(1,1),(2,2),(3,3)],rfl,rfl,rfl,bO rfl rfl rfl (fun q hq=>cB rfl rfl) (dF rfl rfl (age ha) (aO (aO trivial)))⟩ hs'' hk)⟩
theorem Vg {c:Cu} {i:Int} {l:Nat} {g:Nat->Rat} (hp1:1<=c.p) (hp6:c.p<=6) (hn:c.n<2^40) (hm2:c.m<2^40) (hi:-2^40<i) (hi2:i<2^40) (K:Nat):aD P BB K [dL c sK sK,.int .i64 i,ls g l] [] (aL (cy (qQ c i l g) sB) []):=by
 refine iy (r:=aL (cy (qQ c i l g) sB) []) hT LG rfl aW rfl (fun _ cx h00=>?_) K []
 have hk:=sL h00
 refine ay.Dr hT vi hm [1,1,1,0,1] (i:=0) (y:=ot) (z:=part Cv [1,1,1,1]) ah ah ah LG.dst hk (f1:=[]) 60 iX 4 (fun a:Nat=>kV c i l g a) (fun a=>jj c (v8 c a) (oo (iB c i l g) a)) (fun a=>a<=4) (fun a=>a=4) (fun a=>4-a) (fun _=>False) ⟨_,TY,?_⟩ (fun a ha=>?_) (fun a ha=>?_) (fun _ _ h=>h.elim)
 ·simp only[ag.all,aA,aX]
  exact⟨⟨aa,aa⟩,0,aa,[(0,0),(1,4096),(2,8192),(3,24576)],rfl,rfl,rfl,bO rfl rfl rfl (fun q hq=>.inr ⟨rfl,bQ rfl (by decide)⟩) (dF rfl rfl (.inr ⟨rfl,cu (show eL [.rat _ _,.rat _ _,.rat _ _,.rat _ _] [.rat _ _,.rat _ _,.rat _ _,.rat _ _]from⟨bQ rfl (by decide),bQ rfl (by decide),bQ rfl (by decide),bQ rfl (by decide),trivial⟩)⟩) (aO (aO trivial)))⟩
 ·have re:∀{x:Nat->Rat} {h:Pl},eu [] (kV c i l g a,jj c x h) (kV c i l g a) (jj c x h) 4:=
   fun {x h}=>⟨[(0,0),(1,1),(2,2),(3,3)],rfl,rfl,rfl,bO rfl rfl rfl (fun q hq=>cB rfl rfl) (aO (aO (aO trivial)))⟩
  refine ay.tY hT vi hm (y:=ot) (x1:=oe) (zb:=part ot [1,1,1]) [1,1,0] (j:=1) ah ah ah ah hk (f1:=[17]) 60 iX 4 (fun _:Unit=>kV c i l g a) (fun _=>jj c (v8 c a) (oo (iB c i l g) a)) (fun _=>a<4) ⟨_,V8,?_⟩ (fun _ ha'=>?_)
  ·simp only[ag.all,aA,bf,bt]
   exact⟨fun h1=>⟨(),aa,re⟩,fun h1 s' hs'=>⟨rfl,a,aa,re.le hs' hk⟩⟩
  have nx:∀s',(∃ρ,Le cx ρ s' ⟨aF iX (kV c i l g a),jj c (v8 c (a+1)) (oo (iB c i l g) (a+1)),4⟩)->ay P cx p8.ntmps (part ot [1,1,1]) s' (CL cx iX (fun a:Nat=>kV c i l g a) (fun a=>jj c (v8 c a) (oo (iB c i l g) a)) 4 (fun a=>a<=4) (fun a=>a=4) (fun a=>4-a) 0 (fun s'=>∃v,False/\bk iX s'=some v) a):=fun s' hle=>by
   refine ay.lT hle (ay.bz hT vi hm 60 iX WJ ah ?_)
   simp only[ag.all,aA]
   exact⟨aa,fun s'' hs''=>⟨a+1,aa,by dsimp only;omega,eu.le ⟨[(0,0),(1,1),(2,2),(3,3)],rfl,rfl,rfl,bO rfl rfl rfl (fun q hq=>cB rfl rfl) (aO (aO (aO trivial)))⟩ hs'' hk⟩⟩
  exact aam ha' hk hp1 hp6 hn hm2 hi hi2 nx
 ·subst ha
  refine ay.mC ((aG.fin hT vi hm 60 Uc ah ?_).mono fun _ _ h=>.inl h)
  simp only[ag.all,aA]
  exact⟨⟨aa,aa⟩,aa,.refl _⟩
def MS:Spec:=dj (kC (uJ sK sK) (kC kI (kC (kL sK) kN))) (fun a=>cy (qQ a.1 a.2.1 a.2.2.1.1 a.2.2.1.2) sB) fun a=>[1<=a.1.p,a.1.p<=6,a.1.n<2^40,a.1.m<2^40,-2^40<a.2.1,a.2.1<2^40]
theorem ahz:∀K args pre r,MS K args pre=some r->aD P BB K args pre r:=cY fun⟨c,i,⟨l,g⟩,_⟩ K hn=>Vg hn.1 hn.2.1 hn.2.2.1 hn.2.2.2.1 hn.2.2.2.2.1 hn.2.2.2.2.2 K
theorem aeO:aU P AG nr (az nr):=aT Proofs.Tryz.func75 ah ah ah
theorem aeV:aU P Ab lz (az lz):=aT Proofs.Tryz.func179 ah ah ah
def nF (n:Nat) (k:Nat->Rat) (a b:Rat) (i:Nat):Rat:=a+(k i-k 0)/(k (n-1)-k 0)*(b-a)
abbrev Gz (m:Nat) (k:Nat->Rat) (s:Nat):ax:=⟨true,true,3,m,fun i=>.rat (k i) s⟩
theorem adw {c:Nat} {u v:AV} (hv:v.isAgg=false) (h:bD u v):bD (.bH c u) (.bH c v):=by
 refine⟨rfl,fun M w cs hc=>?_⟩
 cases hc with
 |bH _ h1 h2=>cases h2;exact .bH hv (h.2 _ _ _ h1) .nil
def abX (s:Nat):Kind (Nat×(Nat->Rat)):=⟨fun v=>match v with
 |.bH c v=>match(kL s).read v with
  |some (a,q)=>some (a,(c=a.1)::q)
  |none=>none
 |_=>none,fun a=>.bH a.1 (bN a.2 a.1 s),fun {v a q} h hq=>by
  split at h
  ·split at h
   ·rename_i h1
    simp only[au,Prod.mk.injEq]at h
    obtain⟨rfl,rfl⟩:=h
    obtain⟨q1,q2⟩:=Aj.1 hq
    subst q1
    exact adw rfl ((kL s).ok h1 q2)
   ·simp at h
  ·simp at h⟩
abbrev Da:FuncId:=ahX
abbrev zI:Func:=afa
def fC (k:Nat->Rat) (t:Rat):Nat->Nat
 |0=>0
 |n+1=>if fC k t n=n/\k n<=t then n+1 else fC k t n
def gu (k:Nat->Rat) (t:Rat) (p j:Nat):Rat:=if j<p then k j else if j=p then t else k (j-1)
abbrev zf:List Nat:=[3,9,10,11]
abbrev FK (n:Nat) (k:Nat->Rat) (s i:Nat):List AV:=[.bH n (.own 0 3 0 i),bN k n s,.int .i64 n,.int .i64 i]
abbrev Ae:aV:=cG::fK
abbrev y9:List Nat:=[0,3,5]
abbrev It (n:Nat) (k:Nat->Rat) (s i:Nat):List AV:=[bN k n s,.ptr 0 0 3 0 [],.int .i64 i]
abbrev xw:Code:=az B0
def Po (w:Nat):Spec:=dj (kC (abX w) (kC kI (kC (kL w) kN))) (fun a=>bN (gu a.1.2 (a.2.2.1.2 0) a.2.1.toNat) (a.1.1+1) w) fun a=>[0<=a.2.1,a.2.1<=a.1.1,a.2.2.1.1=1,a.1.1<2^40]
def NB (s w:Nat):Spec:=dj (kC (kL s) kN) (fun a=>.bH a.1.1 (bN a.1.2 a.1.1 w)) fun a=>[a.1.1<2^40]
def zN (s w:Nat):aV:=cG::(ru,NB s w)::(Da,Po w)::fK
theorem X7:aU P Da zI (az zI):=aT Proofs.Tryz.func250 ah ah ah
theorem af2:aU P s5 B0 (az B0):=aT Proofs.Tryz.func184 ah ah ah
theorem Z3 {n i s:Nat} {k:Nat->Rat} {t:Rat}:bP T [cG] [22,100031] 60 zI (az zI) ⟨aQ 0 [.bH n (bN k n s),.int .i64 i,bN (fun _=>t) 1 s],[],0⟩=
  let c11:Nat:=Int.toNat (0:Int);let c9:Int:=(↑n:Int);let c7:Int:=(2:Int)^63;let c4:Int:=(↑i:Int);let c14:Nat:=c4.toNat-c11;let c13:Prop:=(0:Int)<=c4;let c12:Nat:=0+c4.toNat;let c3:Int:=c9+(↑(1:Nat):Int);let c2:Int:=c4+(↑(1:Nat):Int);let c10:Nat:=0+c2.toNat;let c1:Nat:=c14+(c3-c4).toNat;let c8:Int:=(↑c1:Int);let c6:Nat:=c12+Min.min 1 (c8.toNat-c4.toNat);let c5:Nat:=c10+Min.min (c9.toNat-c4.toNat) (c8.toNat-c2.toNat);some (aj [c13/\c4<=c9/\c9<=c9] (fork (c4==c9) (aj [n<n+1/\(n+1)*((56:Nat)+1)*2<=2^47] (leaf ret [aq 3 (n+1) fun i=>if i+0<n then rat (k (i+0)) s else rat t s])) (aj [-c7<=c3/\c3<c7] (aj [decide (c3>c9)=true] (aj [(0:Int)<=(0:Int)/\c13/\c4<=c9,-c7<=c3/\c3<c7,-c7<=c3-c4/\c3-c4<c7,(0:Int)<c3-c4/\n-c11<c1/\c1*((56:Nat)+1)*2<=2^47] (aj [c13/\c4<=c8/\c8<=c8/\c8<=c8] (aj [-c7<=c2/\c2<c7,(0:Int)<=c2/\c2<=c8/\c8<=c8/\c8<=c8,c13/\c4<=c9/\c9<=c9] (leaf ret [aq 3 c1 fun i=>if c10<=i+0/\i+0<c5 then rat (k (i+0-c10+c4.toNat)) s else if c12<=i+0/\i+0<c6 then rat t s else if i+0<c14 then rat (k (i+0+c11)) s else rat 0 1])))))))):=ah
theorem ZI {n s:Nat} {k:Nat->Rat}:aJ T Ae [] 60 zf (before ng [1,1,0,1]) ⟨aQ 0 [bN k n s],[],0⟩=
  let c1:Int:=(↑n:Int);some (aj [(0:Int)<=(0:Int)/\(0:Int)<=c1/\c1<=(2:Int)^47/\c1*(↑(56:Nat):Int)<=(2:Int)^47] (leaf normal ([bH c1.toNat (own 12288 3 0 0),aq 3 n fun i=>rat (k i) s,int i64 c1,int i64 0],[(12288,ax.mk true true 3 0 fun x=>rat 0 1)]))):=ah
theorem Vs {n i s w:Nat} {k x:Nat->Rat}:aJ T Ae [12] 60 zf [part ng [1,1,0,1,0,0]] ⟨aF zf (FK n k s i),[(0,Gz i x w)],1⟩=
  let c5:Int:=(↑n:Int);let c3:Nat:=i+1;let c2:AV:=aq 3 n fun i=>rat (k i) s;let c1:Int:=(↑i:Int);let c4:Int:=c1+(1:Int);some (fork (decide (c1<c5)) (aj [(0:Int)<=c1/\c1.toNat<n,(0:Nat)<1] (aj [(0:Nat)<1,s<2^42,(1:Nat)<2^42,(1:Nat)*3<=2^24,c3<=n,c3*((56:Nat)+1)*2<=2^47] (aj [-(2:Int)^63<=c4/\c4<(2:Int)^63] (leaf normal ([bH n (own 40961 3 0 c3),c2,int i64 c5,int i64 c4],[(40961,ax.mk true true 3 c3 fun i_1=>if i_1<i then rat (x i_1) w else nth [rat (k c1.toNat+0) (s+1+1)] (rat 0 1) (i_1-i+0))]))))) (leaf (exit 0) ([bH n (own 0 3 0 i),c2,int i64 c5,int i64 c1],[(0,ax.mk true true 3 i fun i=>rat (x i) w)]))):=ah
theorem V9 {n i s w:Nat} {k x:Nat->Rat}:cJ T Ae [] 60 BT [part ng [1,1,1]] ⟨aF zf (FK n k s i),[(0,Gz i x w)],1⟩=
  some (leaf ret [bH n (aq 3 i fun i=>rat (x (i+0)) w)]):=ah
theorem ahj {n s r w:Nat} {k:Nat->Rat} {t:Rat}:aJ T (zN s w) [] 60 y9 (before xw [1,1,0]) ⟨aQ 0 [bN k n s,.rat t r],[],0⟩=
  some (leaf normal ([aq 3 n fun i=>rat (k i) s,ptr 0 0 (bA (rat t r)).size 0 [],int i64 0],[(0,ax.mk false true (bA (rat t r)).size 1 fun x=>rat t r)])):=ah
theorem aa3 {n i s r w:Nat} {k:Nat->Rat} {t:Rat}:aJ T (zN s w) [10,18] 60 y9 [part xw [1,1,0,0,0]] ⟨aF y9 (It n k s i),[(0,tP t r)],1⟩=
  let c7:AV:=aq 3 n fun i=>rat (k i) s;let c5:AV:=ptr 0 0 3 0 [];let c4:Nat×ax:=((0:Nat),bg fun x=>rat t r);let c3:Int:=(↑i:Int);let c8:Int:=c3+(1:Int);let c6:Bool:=decide (c3<(↑n:Int));let c2:ag (List AV×aE):=leaf (exit 0) ([c7,c5,int i64 c3],[c4]);let c1:ag (List AV×aE):=aj [-(2:Int)^63<=c8/\c8<(2:Int)^63] (leaf normal ([c7,c5,int i64 c8],[c4]));some (fork c6 (aj [c6=true,(0:Int)<=c3/\c3.toNat<n,(0:Nat)<1,s<2^42,r<2^42] (fork (bif true then decide (ek (k c3.toNat) t<=(0:Int))else false) c1 c2)) (aj [c6=false] (fork false c1 c2))):=ah
theorem acY {n i s r w:Nat} {k:Nat->Rat} {t:Rat}:cJ T (zN s w) [] 60 B0 [part xw [1,1,1]] ⟨aF y9 (It n k s i),[(0,tP t r)],1⟩=
  let c3:AV:=rat 0 1;let c2:Prop:=n<2^40;let c1:AV:=rat (t+0) (r+1+1);some (aj [bV (fun i=>rat (k i) s) n s,c2,(0:Nat)<1,r<2^42,(1:Nat)<2^42,(1:Nat)*3<=2^24,n=n,bV (fun i=>rat (aZ (rat (k i) s)) w) n w,bV (fun i=>nth [c1] c3 (i+0)) 1 w,(0:Int)<=(↑i:Int),(↑i:Int)<=(↑n:Int),(1:Nat)=1,c2] (leaf ret [aq 3 (n+1) fun i_1=>rat (gu (fun i=>aZ (rat (aZ (rat (k i) s)) w)) (aZ (nth [c1] c3 ((0:Nat)+0))) (↑i:Int).toNat i_1) w])):=ah
theorem Fg {Γ:aV} (h:bn P Γ):bn P (cG::Γ):=aI (fun _ _ _ _ h=>nomatch h) h
theorem Fs {a b:Rat}:ek a b<=(0:Int)↔a<=b:=by
 have:=@sS a b
 constructor
 ·intro h
  exact Rat.not_lt.1 fun h'=>by have:=sS.2 h';omega
 ·intro h
  have:¬ek a b>0:=fun h'=>Rat.not_lt.2 h (sS.1 h')
  omega
theorem Nh {k:Nat->Rat} {t:Rat} {n:Nat} (h:fC k t n=n) (h2:k n<=t):fC k t (n+1)=n+1:=by unfold fC;rw[if_pos ⟨h,h2⟩]
theorem Hz {k:Nat->Rat} {t:Rat} {i:Nat} (h:fC k t i=i) (h2:t<k i):∀{n:Nat},i<=n->fC k t n=i
 |0,hn=>by
    have:i=0:=aa
    subst this;rfl
 |n+1,hn=>by
  by_cases he:i=n+1
  ·subst he;exact h
  ·have ih:=Hz h h2 (n:=n) aa
   unfold fC
   rw[if_neg,ih]
   rintro⟨g1,g2⟩
   have:i=n:=aa
   subst this
   exact absurd h2 (Rat.not_lt.2 g2)
theorem S1 {n i s:Nat} {k:Nat->Rat} {t:Rat} (hi:i<=n) (hn:n<2^40) (K:Nat):aD P Da K [.bH n (bN k n s),.int .i64 i,bN (fun _=>t) 1 s] [] (aL (bN (gu k t i) (n+1) s) []):=by
 refine bW (r:=aL (bN (gu k t i) (n+1) s) []) hT (Fg bE) hm X7 rfl aW rfl 60 Z3 (fun _=>?_) K []
 simp only[ag.all,aA,bf,bt]
 have w1:((1:Nat):Int)=1:=rfl
 simp only[w1,aX,Int.toNat_zero,Nat.sub_zero,Nat.zero_add,Nat.add_zero,beq_iff_eq,beq_eq_false_iff_ne,ne_eq,Int.ofNat_inj]
 refine⟨aa,fun h=>⟨aa,gm fun j hj=>dD ?_⟩,fun h=>?_⟩
 ·subst h
  unfold gu
  by_cases h1:j<i
  ·rw[if_pos h1,if_pos h1]
  ·rw[if_neg h1,if_neg h1,if_pos aa]
 ·have eN:i+((n:Int)+1-i).toNat=n+1:=aa
  have e2:((i:Int)+1).toNat=i+1:=aa
  simp only[eN,e2]
  refine⟨aa,aa,aa,aa,aa,gm fun j hj=>dD ?_⟩
  unfold gu
  by_cases h1:j<i
  ·rw[if_neg aa,if_neg aa,if_pos h1,if_pos h1]
  ·by_cases h2:j=i
   ·rw[if_neg aa,if_pos aa,if_neg h1,if_pos h2]
   ·rw[if_pos aa,if_neg h1,if_neg h2,show j-(i+1)+i=j-1 by omega]
theorem RT:bn P Ae:=Fg fZ
theorem af6 {n s w:Nat} {k:Nat->Rat} (h:s+2<=w) (hw:w<2^40) (hn:n<2^40) (K:Nat):aD P ru K [bN k n s] [] (aL (.bH n (bN k n w)) []):=by
 refine g8 (r:=aL (.bH n (bN k n w)) []) hT RT hm Fq rfl aW rfl [1,1,0,1] (i:=0) (y:=part ng [1,1,0,1,0,0]) (z:=part ng [1,1,1]) ah ah ah (f1:=[]) (f2:=[12]) (f3:=[]) 60 zf 1
  (fun i:Nat=>FK n k s i) (fun i=>[(0,Gz i k w)]) (fun i=>i<=n) (fun i=>i=n) (fun i=>n-i) (fun _=>⟨⟨_,ZI,?_⟩,fun i hi=>⟨_,Vs,?_⟩,fun i hi=>⟨_,V9,?_⟩⟩) K []
 ·simp only[ag.all,aA]
  exact⟨aa,0,Nat.zero_le _,[(0,12288)],rfl,by rw[aX];rfl,rfl,bO rfl rfl rfl (fun j hj=>absurd hj (Nat.not_lt_zero j)) trivial⟩
 ·simp only[ag.all,aA,bf,bt,aX,Nat.add_zero]
  exact⟨fun h1=>⟨aa,aa,aa,i+1,aa,by dsimp only;omega,[(0,40961)],rfl,rfl,rfl,bO rfl rfl rfl (fun j hj=>pG (fun _ _=>rfl) (Rat.add_zero _) bp aa hj) trivial⟩,
   fun h1=>⟨rfl,i,aa,[(0,0)],rfl,rfl,rfl,g9 trivial⟩⟩
 ·subst hi
  simp only[ag.all,aA]
  exact .refl _
theorem Za {s w:Nat} (h:s+2<=w) (hw:w<2^40):∀K args pre r,NB s w K args pre=some r->aD P ru K args pre r:=cY fun⟨⟨n,k⟩,_⟩ K hn=>af6 h hw hn K
theorem agB {w:Nat}:∀K args pre r,Po w K args pre=some r->aD P Da K args pre r:=cY fun⟨⟨n,k⟩,i,⟨m,g⟩,_⟩ K hn=>by
 obtain⟨h1,h2,h3,h4⟩:=hn
 simp only at h1 h2 h3 h4
 subst h3
 have:=gv (S1 (k:=k) (t:=g 0) (s:=w) (i:=i.toNat) (n:=n) aa h4 K) (args:=[.bH n (bN k n w),.int .i64 i,bN g 1 w]) rfl ⟨.refl _,bJ aa,gm fun j hj=>dD (by rw[Nat.lt_one_iff.1 hj]),trivial⟩ []
 exact this
theorem aiV {s w:Nat} (h:s+2<=w) (hw:w<2^40):bn P (zN s w):=Fg (aI (Za h hw) (aI agB fZ))
theorem NL {n s r w:Nat} {k:Nat->Rat} {t:Rat} (h:s+2<=w) (h2:r+2<=w) (hw:w<2^40) (hn:n<2^40) (K:Nat):aD P s5 K [bN k n s,.rat t r] [] (aL (bN (gu k t (fC k t n)) (n+1) w) []):=by
 refine g8 (r:=aL (bN (gu k t (fC k t n)) (n+1) w) []) hT (aiV h hw) hm af2 rfl aW rfl [1,1,0] (i:=0) (y:=part xw [1,1,0,0,0]) (z:=part xw [1,1,1]) ah ah ah (f1:=[]) (f2:=[10,18]) (f3:=[]) 60 y9 1
  (fun i:Nat=>It n k s i) (fun _=>[(0,tP t r)]) (fun i=>i<=n/\fC k t i=i) (fun i=>i<=n/\i=fC k t n) (fun i=>n-i) (fun _=>⟨⟨_,ahj,?_⟩,fun i hi=>⟨_,aa3,?_⟩,fun i hi=>⟨_,acY,?_⟩⟩) K []
 ·simp only[ag.all,aA]
  exact⟨0,⟨Nat.zero_le _,rfl⟩,[(0,0)],rfl,rfl,rfl,aO trivial⟩
 ·simp only[ag.all,aA,bf,bt,aX]
  simp only[cond_true,bf,bt,Fs]
  exact⟨fun h1=>⟨⟨h1,aa,aa,aa,aa⟩,fun h2=>⟨aa,i+1,⟨aa,Nh hi.2 h2⟩,by dsimp only;omega,[(0,0)],rfl,rfl,rfl,aO trivial⟩,
    fun h2=>⟨rfl,i,⟨aa,(Hz hi.2 (Rat.not_le.1 h2) aa).symm⟩,[(0,0)],rfl,rfl,rfl,aO trivial⟩⟩,
   fun h1=>⟨h1,fun h=>absurd h (by decide),fun _=>⟨rfl,i,⟨hi.1,by rw[show n=i by omega];exact hi.2.symm⟩,[(0,0)],rfl,rfl,rfl,aO trivial⟩⟩⟩
 ·obtain⟨hi,rfl⟩:=hi
  simp only[ag.all,aA]
  refine⟨⟨cI bp,aa,aa,aa,aa,aa,trivial,cI bp,fun j hj=>?_,aa,aa,trivial,aa⟩,gm fun j hj=>dD ?_⟩
  ·rw[Nat.lt_one_iff.1 hj];exact fJ aa
  ·show AV.rat (gu k (t+0) ((fC k t n:Nat):Int).toNat j) w=_
   rw[Rat.add_zero,aX]
def OA (s w:Nat):Spec:=dj (kC (kL s) (kC (gz s) kN)) (fun a=>bN (gu a.1.2 a.2.1 (fC a.1.2 a.2.1 a.1.1)) (a.1.1+1) w) fun a=>[a.1.1<2^40]
theorem Zv {s w:Nat} (h:s+2<=w) (hw:w<2^40):∀K args pre r,OA s w K args pre=some r->aD P s5 K args pre r:=cY fun⟨⟨n,k⟩,t,_⟩ K hn=>NL h h hw hn K
theorem Gq:aU P q9 DT (az DT):=aT Proofs.Tryz.func155 ah ah ah
abbrev kW (y m:Nat) (k:Nat->Rat):ax:=⟨true,true,3,m,fun i=>.rat (k i) y⟩
abbrev pC:Code:=az DT
abbrev ri:List Nat:=[3,9,10,11]
abbrev wh (x n:Nat) (k:Nat->Rat) (i:Nat):List AV:=[.own 0 3 0 i,bN k n x,.int .i64 n,.int .i64 i]
def wT:aV:=nG::fK
theorem RC {x n:Nat} {k:Nat->Rat}:aJ T wT [] 60 ri (before pC [1,1,0,1]) ⟨aQ 0 [bN k n x],[],0⟩=
  let c1:Int:=(↑n:Int);some (aj [(0:Int)<=(0:Int)/\(0:Int)<=c1/\c1<=(2:Int)^47/\c1*(↑(56:Nat):Int)<=(2:Int)^47] (leaf normal ([own 12288 3 0 0,aq 3 n fun i=>rat (k i) x,int i64 c1,int i64 0],[(12288,ax.mk true true 3 0 fun x=>rat 0 1)]))):=ah
theorem KW {x y n i:Nat} {k:Nat->Rat}:aJ T wT [12] 60 ri [part pC [1,1,0,1,0,0]] ⟨aF ri (wh x n k i),[(0,kW y i k)],1⟩=
  let c4:Int:=(↑n:Int);let c2:AV:=aq 3 n fun i=>rat (k i) x;let c1:Int:=(↑i:Int);let c3:Int:=c1+(1:Int);some (fork (decide (c1<c4)) (aj [(0:Int)<=c1/\c1.toNat<n,(0:Nat)<1] (aj [(0:Nat)<1,x<2^42,(1:Nat)<2^42,(1:Nat)*3<=2^24,(i+1)*((56:Nat)+1)*2<=2^47] (aj [-(2:Int)^63<=c3/\c3<(2:Int)^63] (leaf normal ([own 40961 3 0 (i+1),c2,int i64 c4,int i64 c3],[(40961,ax.mk true true 3 (i+1) fun i_1=>if i_1<i then rat (k i_1) y else nth [rat (k c1.toNat+0) (x+1+1)] (rat 0 1) (i_1-i+0))]))))) (leaf (exit 0) ([own 0 3 0 i,c2,int i64 c4,int i64 c1],[(0,ax.mk true true 3 i fun i=>rat (k i) y)]))):=ah
theorem abf {x y n i:Nat} {k:Nat->Rat}:cJ T wT [] 60 DT [part pC [1,1,1]] ⟨aF ri (wh x n k i),[(0,kW y i k)],1⟩=
  some (leaf ret [aq 3 i fun i=>rat (k (i+0)) y]):=ah
theorem Hf:bn P wT:=dB fZ
theorem adD {x y n:Nat} {k:Nat->Rat} (hxy:x+10<=y) (hy:y<2^40) (hn:n<2^40) (K:Nat):aD P q9 K [bN k n x] [] (aL (bN k n y) []):=by
 refine g8 (r:=aL (bN k n y) []) hT Hf hm Gq rfl aW rfl [1,1,0,1] (i:=0) (y:=part pC [1,1,0,1,0,0]) (z:=part pC [1,1,1]) ah ah ah (f1:=[]) (f2:=[12]) (f3:=[]) 60 ri 1
  (fun i:Nat=>wh x n k i) (fun i=>[(0,kW y i k)]) (fun i=>i<=n) (fun i=>i=n) (fun i=>n-i) (fun _=>⟨⟨_,RC,?_⟩,fun i hi=>⟨_,KW,?_⟩,fun i hi=>⟨_,abf,?_⟩⟩) K []
 ·simp only[ag.all,aA]
  exact⟨aa,0,Nat.zero_le _,[(0,12288)],rfl,rfl,rfl,bO rfl rfl rfl (fun i hi=>absurd hi (Nat.not_lt_zero i)) trivial⟩
 ·simp only[ag.all,aA,bf,bt,aX,Nat.add_zero]
  exact⟨fun h2=>⟨aa,aa,aa,i+1,aa,by dsimp only;omega,[(0,40961)],rfl,rfl,rfl,bO rfl rfl rfl (fun j hj=>pG (fun _ _=>rfl) (Rat.add_zero _) bp aa hj) trivial⟩,fun h2=>⟨rfl,i,aa,[(0,0)],rfl,rfl,rfl,bO rfl rfl rfl (fun j hj=>cB rfl rfl) trivial⟩⟩
 ·subst hi
  simp only[ag.all,aA]
  exact rU rfl fun j hj=>rfl
def QK (x y:Nat):Spec:=dj (kC (kL x) kN) (fun a=>bN a.1.2 a.1.1 y) fun a=>[x+10<=y,y<2^40,a.1.1<2^40]
theorem aah (x y:Nat):∀K args pre r,QK x y K args pre=some r->aD P q9 K args pre r:=cY fun⟨⟨n,k⟩,_⟩ K hn=>adD hn.1 hn.2.1 hn.2.2 K
end Go.Am.B
