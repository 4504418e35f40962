/- fP. -/
import Derived.Test.YtppeigelbecpbaaGreatY37
import Derived.Test.YtppeigelbecpbaaGreatZ2
set_option linter.unusedVariables false
noncomputable section
namespace Go.Am.B
open Go Go.Am.N AV ah au IntKind
theorem ag1:aT P BP Aa (aA Aa):=aY Proofs.Tryz.func115 ag ag ag
theorem ajb:aT P Eg Bp (aA Bp):=aY Proofs.Tryz.func186 ag ag ag
abbrev tA:Code:=aA Aa
abbrev q9:List Nat:=[0,3,4]
abbrev oW (n:Nat) (k:Nat->Rat) (v:AV) (i:Int):List AV:=[bq k n sJ,v,.int .i64 i]
abbrev Hj (m:Nat) (k:Nat->Rat):ak:=⟨true,true,3,m,fun i=>.rat (k i) sJ⟩
abbrev AR:Code:=aA Bp
abbrev zu:List Nat:=[4,0,1,5]
abbrev Ju (n:Nat) (k:Nat->Rat) (i:Nat):List AV:=[.bool false,ls k n,.func lz [],.int .i64 ((i:Int)-1)]
def Mn:bg:=[(tr,Mq),(HE,Hl)]
theorem ai6 {n:Nat} {k:Nat->Rat}:aH T jW [] 60 q9 (before tA [1,1,0,1]) ⟨aQ 0 [bq k n sJ],[],0⟩=
  some (leaf normal ([aq 3 n fun i=>rat (k i) 4000,nil,int i64 0],[])):=ag
theorem afc {n:Nat} {k:Nat->Rat}:aH T jW [8,13,25] 60 q9 [part tA [1,1,0,1,0,0]] ⟨aC q9 (oW n k .nil 0),[],1⟩=
  let c6:Int:=(2:Int)^63;let c5:Nat:=Int.toNat (0:Int);let c4:Int:=(0:Int)-(1:Int);let c3:AV:=aq 3 n fun i=>rat (k i) 4000;let c8:Prop:=(0:Int)<=(0:Int)/\c5<n;let c2:Prop:=-c6<=(0:Int)+(1:Int)/\(0:Int)+(1:Int)<c6;let c7:ah (List AV×aF):=aj [c2] (leaf normal ([c3,nil,int i64 1],[]));let c1:ah (List AV×aF):=aj [c8,(1:Nat)*3<=2^24,(0:Nat)<1/\1*((56:Nat)+1)*2<=2^47] (aj [c2] (leaf normal ([c3,own 102401 3 0 1,int i64 1],[(102401,ak.mk true true 3 1 fun i=>nth [rat (k c5) sJ] (rat 0 1) (i+0))])));some (fork (decide ((0:Int)<(↑n:Int))) (fork true (aj [((0:Int)==(0:Int))=true] (fork true c1 c7)) (aj [((0:Int)==(0:Int))=false,c8,-c6<=c4/\c4<c6,(0:Int)<=c4/\c4.toNat<n] (fork (bif false then true else !decide (k c5=k c4.toNat)) c1 c7))) (leaf (exit 0) ([c3,nil,int i64 0],[]))):=ag
theorem aam {n l i:Nat} {k x:Nat->Rat}:aH T jW [8,13,25] 60 q9 [part tA [1,1,0,1,0,0]] ⟨aC q9 (oW n k (.own 0 3 0 (l+1)) ((i+1:Nat):Int)),[(0,Hj (l+1) x)],1⟩=
  let c6:AV:=aq 3 n fun i=>rat (k i) 4000;let c5:Nat:=l+1;let c4:Int:=(2:Int)^63;let c2:Int:=(↑(i+1):Int);let c12:Nat:=c5+1;let c11:Prop:=(0:Int)<=c2/\c2.toNat<n;let c10:AV:=own 0 3 0 c5;let c9:Int:=c2+(1:Int);let c8:Int:=c2-(1:Int);let c7:Nat×ak:=(0,ak.mk true true 3 c5 fun i=>rat (x i) 4000);let c3:ah (List AV×aF):=aj [-c4<=c9/\c9<c4] (leaf normal ([c6,c10,int i64 c9],[c7]));let c1:ah (List AV×aF):=aj [c11,(1:Nat)*3<=2^24,c12*((56:Nat)+1)*2<=2^47] (aj [-c4<=c9/\c9<c4] (leaf normal ([c6,own 102401 3 0 c12,int i64 c9],[(102401,ak.mk true true 3 c12 fun i=>if i<c5 then rat (x i) sJ else nth [rat (k c2.toNat) sJ] (rat 0 1) (i-c5+0))])));some (fork (decide (c2<(↑n:Int))) (fork false (aj [(c2==(0:Int))=true] (fork true c1 c3)) (aj [(c2==(0:Int))=false,c11,-c4<=c8/\c8<c4,(0:Int)<=c8/\c8.toNat<n] (fork (bif false then true else !decide (k c2.toNat=k c8.toNat)) c1 c3))) (leaf (exit 0) ([c6,c10,int i64 c2],[c7]))):=ag
theorem ae2 {n:Nat} {k:Nat->Rat}:cw T jW [] 60 Aa [part tA [1,1,1]] ⟨aC q9 (oW n k .nil 0),[],1⟩=
  some (leaf ret [nil]):=ag
theorem ahs {n l i:Nat} {k x:Nat->Rat}:cw T jW [] 60 Aa [part tA [1,1,1]] ⟨aC q9 (oW n k (.own 0 3 0 (l+1)) ((i+1:Nat):Int)),[(0,Hj (l+1) x)],1⟩=
  some (leaf ret [aq 3 (l+1) fun i=>rat (x (i+0)) 4000]):=ag
theorem Wi {n:Nat} {k:Nat->Rat}:aH T gP [] 60 zu (before AR [1,0,1]) ⟨aQ 0 [ls k n,.func lz []],[],0⟩=
  let c1:Int:=(↑n:Int)-(1:Int);some (aj [-(2:Int)^63<=c1/\c1<(2:Int)^63] (leaf normal ([AV.bool false,aq 3 n fun i=>rat (k i) 4096,func lz [],int i64 c1],[]))):=ag
theorem aal {n i:Nat} {k:Nat->Rat}:aH T gP [10,24] 60 zu [part AR [1,0,1,0,0]] ⟨aC zu (Ju n k i),[],1⟩=
  let c5:AV:=aq 3 n fun i=>rat (k i) 4096;let c4:Int:=(2:Int)^63;let c1:Int:=(↑i:Int)-(1:Int);let c3:List AV:=[AV.bool false,c5,func lz [],int i64 c1];let c2:Int:=c1-(1:Int);let c6:Int:=dM (k c1.toNat) (k c2.toNat);some (fork (decide (c1>(0:Int))) (aj [(0:Int)<=c1/\c1.toNat<n,-c4<=c2/\c2<c4,(0:Int)<=c2/\c2.toNat<n] (fork (decide (c6<(0:Int))) (leaf ret (c3,[])) (aj [-c4<=c2/\c2<c4] (leaf normal ([AV.bool false,c5,func lz [],int i64 c2],[]))))) (leaf (exit 0) (c3,[]))):=ag
theorem agr {n i:Nat} {k:Nat->Rat}:cw T gP [] 60 Bp [part AR [1,1]] ⟨aC zu (Ju n k i),[],1⟩=
  some (leaf ret [AV.bool true]):=ag
theorem ah2 {n:Nat} {k:Nat->Rat}:bW T Mn [] 60 Df (aA Df) ⟨aQ 0 [bq k n sJ],[],0⟩=
  let c1:Prop:=n<2^40;some (aj [bP (fun i=>rat (k i) sJ) n sJ,c1,n=n,GO (fun i=>rat (aR (rat (k i) sJ)) sK) n sK,c1] (leaf ret [aq 3 (bn (fun i=>aR (rat (aR (rat (k i) sJ)) sK)) n) fun i=>rat (mz (fun i=>aR (rat (aR (rat (k i) sJ)) sK)) n (i+0)) 4096])):=ag
def kF (g:FuncId):Kind Unit:=⟨fun v=>match v with
 |.func f []=>match Nat.beq f g with
  |true=>some ((),[])
  |false=>none
 |_=>none,fun _=>.func g [],fun {v a q} h _=>by
  split at h
  ·split at h
   ·rename_i hb
    rw[Nat.eq_of_beq_eq_true hb];exact .refl _
   ·simp at h
  ·simp at h⟩
def qj (p:Prop):Bool:=@decide p (Classical.propDecidable p)
theorem ag6 {p:Prop} (h:p):qj p=true:=@decide_eq_true p (Classical.propDecidable p) h
theorem afk {p:Prop} (h:¬p):qj p=false:=@decide_eq_false p (Classical.propDecidable p) h
theorem agH {p:Prop} (h:qj p=true):p:=@of_decide_eq_true p (Classical.propDecidable p) h
theorem ahV {p:Prop} (h:qj p=false):¬p:=@of_decide_eq_false p (Classical.propDecidable p) h
theorem acs {n:Nat} {k:Nat->Rat} (hn:n<2^40) (K:Nat):aE P Eg K [ls k n,.func lz []] [] (aK (.bool (qj (sR n k))) []):=by
 refine fI (r:=aK (.bool (qj (sR n k))) []) hT lZ hm ajb rfl aX rfl [1,0,1] (i:=0) (y:=part AR [1,0,1,0,0]) (z:=part AR [1,1]) ag ag ag (f1:=[]) (f2:=[10,24]) (f3:=[]) 60 zu 1
  (fun i:Nat=>Ju n k i) (fun _=>[]) (fun i=>i<=n/\∀j,i<=j+1->j+1<n->k j<=k (j+1)) (fun _=>sR n k) (fun i=>i) (fun _=>⟨⟨_,Wi,?_⟩,fun i ⟨h1,h2⟩=>⟨_,aal,?_⟩,fun i hi=>⟨_,agr,?_⟩⟩) K []
 ·simp only[ah.all,az]
  exact⟨aa,n,⟨aU,fun j h1 h2=>aa⟩,cP.vals rfl⟩
 ·simp only[ah.all,az,aZ,bk,mI]
  refine⟨fun h=>⟨aa,fun hlt=>⟨[.bool false],ag,fB ?_⟩,fun hle=>⟨aa,i-1,⟨aa,fun j g1 g2=>?_⟩,by dsimp only;omega,[],rfl,?_,rfl,trivial⟩⟩,fun h=>⟨rfl,i,fun j hj=>h2 j aa hj,[],rfl,rfl,rfl,trivial⟩⟩
  ·refine(afk fun hs=>?_).symm
   have:=hs (i-2) aa
   rw[show((i:Int)-1).toNat=i-2+1 by omega,show((i:Int)-1-1).toNat=i-2 by omega]at hlt
   grind
  ·by_cases he:j+2=i
   ·rw[show((i:Int)-1).toNat=j+1 by omega,show((i:Int)-1-1).toNat=j by omega]at hle
    grind
   ·exact h2 j aa g2
  ·show _=[_,_,_,AV.int .i64 (((i-1:Nat):Int)-1)]
   rw[show((i-1:Nat):Int)-1=(i:Int)-1-1 by omega];rfl
 ·simp only[ah.all,az]
  exact fB (ag6 hi).symm
def RJ:Spec:=cN (kC (kL sK) (kC (kF lz) kN)) (fun a=>.bool (qj (sR a.1.1 a.1.2))) fun a=>[a.1.1<2^40]
theorem agt:∀K args pre r,RJ K args pre=some r->aE P Eg K args pre r:=cy fun⟨⟨n,k⟩,_,_⟩ K hn=>acs hn K
def CJ:Spec:=cN (kC (kL sJ) kN) (fun a=>ls (bH a.1.2 a.1.1) (bn a.1.2 a.1.1)) fun a=>[a.1.1<2^40]
theorem Uz:bz P Mn:=aL abw (aL Us bO)
theorem Ip:∀K args pre r,CJ K args pre=some r->aE P vu K args pre r:=cy fun⟨⟨n,k⟩,_⟩ K hn=>by
 have hn:n<2^40:=hn
 refine cj (r:=aK (ls (bH k n) (bn k n)) []) hT Uz hm TE rfl aX rfl 60 ah2 (fun _=>?_) K []
 simp only[ah.all,az]
 exact⟨⟨bY aU,hn,trivial,ajS aU,hn⟩,mC rfl fun i hi=>by
  show AV.rat (mz k n (i+0)) sK=_
  have hi:i<bn k n:=hi
  rw[Nat.add_zero];unfold mz;rw[if_pos hi]⟩
theorem ahr:∀K args pre r,CJ K args pre=some r->aE P BP K args pre r:=cy fun⟨⟨n,k⟩,_⟩ K hn=>by
 have hn:n<2^40:=hn
 refine fI (r:=aK (ls (bH k n) (bn k n)) []) hT Ex hm ag1 rfl aX rfl [1,1,0,1] (i:=0) (y:=part tA [1,1,0,1,0,0]) (z:=part tA [1,1,1]) ag ag ag (f1:=[]) (f2:=[8,13,25]) (f3:=[]) 60 q9 1
  (fun i:Nat=>oW n k (match i with
   |0=>.nil
   |_+1=>.own 0 3 0 (bn k i)) i) (fun i=>match i with
   |0=>[]
   |_+1=>[(0,Hj (bn k i) (bH k i))]) (fun i=>i<=n) (fun i=>i=n) (fun i=>n-i) (fun _=>⟨⟨_,ai6,?_⟩,fun i hi=>?_,fun i hi=>?_⟩) K []
 ·simp only[ah.all,az]
  exact⟨0,Nat.zero_le _,cP.vals rfl⟩
 ·cases i with
  |zero=>
   refine⟨_,afc,?_⟩
   simp only[ah.all,az,aZ,bk]
   have e1:bn k 1=1:=by simp[bn,fk]
   have e2:bH k 1 0=k 0:=by simp[bH,bn,fk,jm]
   (repeat' with_reducible first|refine And.intro ?_ ?_|intro _)
   all_goals first|omega|decide|exact absurd ‹true=false› (by decide)|skip
   ·refine⟨1,aa,by dsimp only;omega,[(0,102401)],rfl,?_,rfl,bL rfl rfl e1.symm (fun j hj=>?_) trivial⟩
    ·show _=(oW n k (.own 0 3 0 (bn k 1)) 1).map _
     rw[e1];rfl
    ·have hj:j=0:=by rw[e1]at hj;omega
     subst hj
     exact cL rfl (by rw[e2];rfl)
   ·exact⟨rfl,0,aa,cP.vals rfl⟩
  |succ i=>
   obtain⟨l,hl⟩:∃l,bn k (i+1)=l+1:=⟨bn k (i+1)-1,by have:=(tL (k:=k) (n:=i)).1;omega⟩
   dsimp only
   rw[hl]
   refine⟨_,aam,?_⟩
   simp only[ah.all,az,aZ,bk]
   have e3:((i+1:Nat):Int).toNat=i+1:=aa
   have e4:(((i+1:Nat):Int)-1).toNat=i:=aa
   have hle:=mW (k:=k) (n:=i+1)
   (repeat' with_reducible first|refine And.intro ?_ ?_|intro _)
   all_goals first|omega|exact absurd ‹false=true› (by decide)|exact absurd ‹true=false› (by decide)|skip
   ·simp
    omega
   ·rename_i hne
    rw[e3,e4,cond_false,Bool.not_eq_true',bk]at hne
    have hnew:fk k (i+1):=S7.2 hne
    have e5:bn k (i+1+1)=l+1+1:=by rw[Q1 hnew,hl]
    refine⟨i+2,aa,by dsimp only;omega,[(0,102401)],rfl,?_,rfl,bL rfl rfl e5.symm (fun j hj=>?_) trivial⟩
    ·show _=(oW n k (.own 0 3 0 (bn k (i+1+1))) ((i+1+1:Nat):Int)).map _
     rw[e5];rfl
    ·rw[e5]at hj
     refine gM (y:=bH k (i+1+1)) (fun x hx=>?_) ?_ aU aU hj
     ·rw[show bH k (i+1+1)=jm (bH k (i+1)) (bn k (i+1)) (k (i+1))from if_pos hnew,hl,js aa]
     ·rw[show bH k (i+1+1)=jm (bH k (i+1)) (bn k (i+1)) (k (i+1))from if_pos hnew,hl,pz,e3]
   ·rename_i heq
    rw[e3,e4,cond_false,Bool.not_eq_false',aZ]at heq
    have hold:¬fk k (i+1):=fun h=>S7.1 h heq
    have e5:bn k (i+1+1)=l+1:=by rw[Jj hold,hl]
    refine⟨i+2,aa,by dsimp only;omega,[(0,0)],rfl,?_,rfl,bL rfl rfl e5.symm (fun j hj=>cL rfl ?_) trivial⟩
    ·show _=(oW n k (.own 0 3 0 (bn k (i+1+1))) ((i+1+1:Nat):Int)).map _
     rw[e5];rfl
    ·show _=AV.rat (bH k (i+1+1) j) sJ
     rw[show bH k (i+1+1)=bH k (i+1)from if_neg hold]
   ·refine⟨rfl,i+1,aa,[(0,0)],rfl,?_,rfl,bL rfl rfl hl.symm (fun j hj=>cL rfl rfl) trivial⟩
    show _=(oW n k (.own 0 3 0 (bn k (i+1))) ((i+1:Nat):Int)).map _
    rw[hl];rfl
 ·cases i with
  |zero=>
   refine⟨_,ae2,?_⟩
   simp only[ah.all,az]
   subst hi
   exact kX aa
  |succ i=>
   obtain⟨l,hl⟩:∃l,bn k (i+1)=l+1:=⟨bn k (i+1)-1,by have:=(tL (k:=k) (n:=i)).1;omega⟩
   dsimp only
   rw[hl]
   refine⟨_,ahs,?_⟩
   simp only[ah.all,az]
   subst hi
   exact(mC (g:=fun j=>.rat (bH k (i+1) j) sJ) hl.symm fun j hj=>rfl).trans (fq fun j hj=>fK (by decide))
theorem ael:aT P yS uI (aA uI):=aY Proofs.Tryz.func103 ag ag ag
def F4:bg:=(Eg,RJ)::(vu,CJ)::(uV,rR)::Kl
abbrev Ar:Code:=aA uI
abbrev sI:List Nat:=[0,1,4,48,49,50]
abbrev Kv (n:Nat) (k:Nat->Rat) (p:Int) (d:Nat) (f:Nat->Rat) (i:Nat):List AV:=[bq k n sJ,.int .i64 p,.int .i64 0,bq f d sK,.int .i64 d,.int .i64 i]
theorem aex {n:Nat} {k:Nat->Rat} {p:Int}:aH T F4 [18,15,22,29,35,46] 60 sI (before Ar [1,1,1,0,1]) ⟨aQ 0 [bq k n sJ,.int .i64 p],[],0⟩=
  let c16:Int:=(↑n:Int);let c15:Prop:=bP (fun i=>rat (k i) sJ) n sK;let c14:Nat:=Int.toNat (0:Int);let c13:Nat:=bn (fun i=>aR (rat (k i) sJ)) n;let c11:Bool:=decide (p<(1:Int));let c10:Int:=i64.wrap (i64.wrap ((2:Int)*p)+(2:Int));let c9:Prop:=n<2^40;let c7:List AV:=[tuple [],tuple [],tuple []];let c6:Bool:=!qj (sR n fun i=>aR (rat (k i) sJ));let c3:AV:=aq 3 n fun i=>rat (k i) 4000;let c12:List AV:=c3::int i64 p::int i64 1::c7;let c8:Int:=i64.wrap (i64.wrap (c16-p)-(1:Int));let c5:Int:=i64.wrap (c16-(1:Int));let c4:ah (List AV×aF):=leaf ret (c3::int i64 p::int i64 5::c7,[]);let c2:ah (List AV×aF):=aj [bP (fun i=>rat (k i) sJ) n sJ,c9] (leaf normal ([c3,int i64 p,int i64 0,aq 3 c13 fun i=>rat (bH (fun i=>aR (rat (k i) sJ)) n i) 4096,int i64 (↑c13:Int),int i64 0],[]));let c1:ah (List AV×aF):=fork (decide (c16<c10)) c4 (fork (decide (c8>(40:Int))) (leaf ret (c3::int i64 p::int i64 2::c7,[])) (fork c6 (aj [c15,c9,c6=true] (fork true c4 c2)) (aj [c15,c9,c6=false,(0:Int)<=(0:Int)/\c14<n,(0:Int)<=c5/\c5.toNat<n] (fork (bif false then true else decide (k c14=k c5.toNat)) c4 c2))));some (fork c11 (aj [c11=true] (fork true (leaf ret (c12,[])) c1)) (aj [c11=false] (fork (bif false then true else decide (p>(6:Int))) (leaf ret (c12,[])) c1))):=ag
theorem Up {n d i:Nat} {k f:Nat->Rat} {p:Int}:aH T F4 [51,62,73,79,82,87] 60 sI [part Ar [1,1,1,0,1,0,0]] ⟨aC sI (Kv n k p d f i),[],1⟩=
  let c18 : Int := (↑d : Int); let c16 : Prop := false = false; let c13 : Int := (↑i : Int); let c12 : Prop := 0 < 1; let c11 : AV := aq 3 d fun i => rat (f i) 4096; let c10 : AV := aq 3 n fun i => rat (k i) 4000; let c9 : Int := i64.wrap ((↑n : Int) - (1 : Int)); let c8 : Nat := Int.toNat (0 : Int); let c17 : Prop := (0 : Int) <= (0 : Int) /\ c8 < n; let c14 : List AV := [c11, int i64 c18, int i64 c13]; let c7 : Rat := f c13.toNat; let c1 : ah (List AV × aF) := leaf normal ([c10, int i64 p, int i64 (0 : Int), c11, int i64 c18, int i64 (i64.wrap (c13 + (1 : Int)))], []); let c15 : Bool := decide (c7 = k c8); let c4 : Int := (↑(bw (fun i => aR (rat (k i) sJ)) c7 n) : Int); let c3 : Bool := bif false then true else decide (c7 = k c9.toNat); let c2 : ah (List AV × aF) := leaf ret (c10 :: int i64 p :: int i64 (5 : Int) :: c14, []); let c6 : ah (List AV × aF) := fork (bif false then true else bif true then decide (c4 > p) else false) c2 c1; let c5 : Bool := bif true then c4 != i64.wrap (p + (1 : Int)) else false; some (fork (decide (c13 < c18)) (aj [(0 : Int) <= c13 /\ c13.toNat < d, c12] (aj [c12, bP (fun i => rat (k i) sJ) n sK, sK <= sK, n < 2 ^ 40] (fork c15 (aj [c12, c17, c15 = true] (fork true (fork c5 (aj [true = true, c5 = true] (fork true c2 c1)) (fork false (aj [true = true, c5 = false, (!true) = true] c6) (aj [true = true, c5 = false, (!true) = false] (fork false c2 c1)))) (fork false (aj [true = false, false = true] (fork true c2 c1)) (fork false (aj [true = false, c16, (!true) = true] c6) (aj [true = false, c16, (!true) = false] (fork false c2 c1)))))) (aj [c12, c17, c15 = false, c12, (0 : Int) <= c9 /\ c9.toNat < n] (fork c3 (fork c5 (aj [c3 = true, c5 = true] (fork true c2 c1)) (fork (!c3) (aj [c3 = true, c5 = false, (!c3) = true] c6) (aj [c3 = true, c5 = false, (!c3) = false] (fork false c2 c1)))) (fork false (aj [c3 = false, false = true] (fork true c2 c1)) (fork (!c3) (aj [c3 = false, c16, (!c3) = true] c6) (aj [c3 = false, c16, (!c3) = false] (fork false c2 c1))))))))) (leaf (exit 1) (c10 :: int i64 p :: int i64 (0 : Int) :: c14, []))) := ag
theorem aii {n d i:Nat} {k f:Nat->Rat} {p:Int}:cw T F4 [] 60 uI [part Ar [1,1,1,1]] ⟨aC sI (Kv n k p d f i),[],1⟩=
  some (leaf ret [int i64 0]):=ag
theorem adK:bz P F4:=aL agt (aL Ip (aL JK LA))
def vg (n:Nat) (p:Int):Prop:=1<=p/\p<=6/\2*p+2<=(n:Int)/\(n:Int)-p-1<=40
theorem agI {n:Nat} {k:Nat->Rat} {p:Int} (hn:n<2^40) (K:Nat):aE P yS K [bq k n sJ,.int .i64 p] [] (aK (.int .i64 (gR n k p)) []):=by
 refine fI (r:=aK (.int .i64 (gR n k p)) []) hT adK hm ael rfl aX rfl [1,1,1,0,1] (i:=1) (y:=part Ar [1,1,1,0,1,0,0]) (z:=part Ar [1,1,1,1]) ag ag ag (f1:=[18,15,22,29,35,46]) (f2:=[51,62,73,79,82,87]) (f3:=[]) 60 sI 1
  (fun i:Nat=>Kv n k p (bn k n) (bH k n) i) (fun _=>[]) (fun i=>i<=bn k n/\vg n p/\sR n k/\k 0≠k (n-1)/\∀j,j<i->¬lG n k p.toNat (bH k n j)) (fun _=>vg n p/\rX n k p.toNat) (fun i=>bn k n-i) (fun _=>⟨⟨_,aex,?_⟩,fun i ⟨h1,h2,h3,h4,h5⟩=>⟨_,Up,?_⟩,fun i ⟨h1,h2⟩=>⟨_,aii,?_⟩⟩) K []
 ·have r:∀{e:Int} {u:AV},gR n k p=e->oP uI sI (.int .i64 (gR n k p)) ([u,.int .i64 p,.int .i64 e,.tuple [],.tuple [],.tuple []],[]):=fun h=>⟨[.int .i64 _],ag,bQ h.symm⟩
  by_cases hp:1<=p/\p<=6
  ·have e1:i64.wrap (i64.wrap (2*p)+2)=2*p+2:=by rw[wrap_i64 (show-2^63<=2*p by omega) aa];exact wrap_i64 aa aa
   have e2:i64.wrap (i64.wrap ((n:Int)-p)-1)=(n:Int)-p-1:=by rw[wrap_i64 (show-2^63<=(n:Int)-p by omega) aa];exact wrap_i64 aa aa
   have e3:i64.wrap ((n:Int)-1)=(n:Int)-1:=wrap_i64 aa aa
   have e5:((n:Int)-1).toNat=n-1:=aa
   simp only[ah.all,az,decide_eq_true_eq,decide_eq_false_iff_not,Bool.not_eq_true',Bool.not_eq_false',cond_true,cond_false,Int.toNat_natCast,Int.toNat_zero,ye,e1,e2,e3,e5]
   (repeat' with_reducible first|refine And.intro ?_ ?_|intro _)
   all_goals first|exact absurd ‹true=false› (by decide)|exact absurd ‹false=true› (by decide)|omega|(exfalso;omega)|exact bY (by decide)|assumption|exact r (adk aa aa)|exact r (aj6 aa aa aa)|exact r (Ik aa aa aa fun h=>ahV ‹_› h.1)|exact r (Ik aa aa aa fun h=>h.2.1 ‹_›)|exact⟨0,⟨Nat.zero_le _,⟨aa,aa,aa,aa⟩,agH ‹_›,‹_›,fun j hj=>absurd hj (Nat.not_lt_zero j)⟩,cP.vals rfl⟩|skip
   skip
  ·simp only[ah.all,az,decide_eq_true_eq,decide_eq_false_iff_not,Bool.not_eq_true',Bool.not_eq_false',cond_true,cond_false,aW]
   (repeat' with_reducible first|refine And.intro ?_ ?_|intro _)
   all_goals first|exact absurd ‹true=false› (by decide)|exact absurd ‹false=true› (by decide)|omega|(exfalso;omega)|exact r (X6 aa)|skip
   skip
 ·obtain⟨q,rfl⟩:∃q:Nat,p=(q:Int):=⟨p.toNat,by have:=h2.1;omega⟩
  have hq:=h2
  unfold vg at hq
  have e1:i64.wrap ((q:Int)+1)=((q+1:Nat):Int):=by rw[wrap_i64 aa aa];rfl
  have e2:i64.wrap ((i:Int)+1)=((i+1:Nat):Int):=by rw[wrap_i64 aa (by have:=mW (k:=k) (n:=n);omega)];rfl
  have e3:i64.wrap ((n:Int)-1)=(n:Int)-1:=wrap_i64 aa aa
  have e5:((n:Int)-1).toNat=n-1:=aa
  simp only[aW]at h5
  have hd:=mW (k:=k) (n:=n)
  have r:∀{u v w x y:AV},lG n k q (bH k n i)->i<bn k n->oP uI sI (.int .i64 (gR n k q)) ([u,v,.int .i64 5,w,x,y],[]):=fun h hi=>⟨[.int .i64 5],ag,bQ (Ik aa aa aa fun hk=>hk.2.2 i hi (by rw[aW];exact h)).symm⟩
  have nx:¬lG n k q (bH k n i)->i<bn k n->∀j,j<i+1->¬lG n k q (bH k n j):=fun h hi j hj=>by
   by_cases he:j=i
   ·subst he;exact h
   ·exact h5 j aa
  simp only[ah.all,az,decide_eq_true_eq,decide_eq_false_iff_not,Bool.not_eq_true',Bool.not_eq_false',cond_true,cond_false,Int.toNat_natCast,Int.toNat_zero,ye,e1,e2,e3,e5,bne_iff_ne,bne_eq_false_iff_eq,ne_eq]
  obtain⟨c,hc⟩:∃c,bw k (bH k n i) n=c:=⟨_,rfl⟩
  have hc':bw (fun i=>k i) (bH k n i) n=c:=hc
  simp only[hc']
  have b1:bH k n i=k 0->c≠q+1->lG n k q (bH k n i):=fun h1 h2=>.inl ⟨.inl h1,by rw[hc];exact h2⟩
  have b2:bH k n i=k (n-1)->c≠q+1->lG n k q (bH k n i):=fun h1 h2=>.inl ⟨.inr h1,by rw[hc];exact h2⟩
  have b3:¬bH k n i=k 0->¬bH k n i=k (n-1)->q<c->lG n k q (bH k n i):=fun h1 h2 h3=>.inr ⟨fun h=>h.elim h1 h2,by rw[hc];exact h3⟩
  have g1:bH k n i=k 0->c=q+1->¬lG n k q (bH k n i):=by
   rintro h1 h2 (⟨_,h3⟩|⟨h3,_⟩)
   ·exact h3 (by rw[hc];exact h2)
   ·exact h3 (.inl h1)
  have g2:bH k n i=k (n-1)->c=q+1->¬lG n k q (bH k n i):=by
   rintro h1 h2 (⟨_,h3⟩|⟨h3,_⟩)
   ·exact h3 (by rw[hc];exact h2)
   ·exact h3 (.inr h1)
  have g3:¬bH k n i=k 0->¬bH k n i=k (n-1)->c<=q->¬lG n k q (bH k n i):=by
   rintro h1 h2 h3 (⟨h4,_⟩|⟨_,h4⟩)
   ·exact h4.elim h1 h2
   ·rw[hc]at h4;omega
  clear hc hc'
  (repeat' with_reducible first|refine And.intro ?_ ?_|intro _)
  all_goals first|exact absurd ‹true=false› (by decide)|exact absurd ‹false=true› (by decide)|omega|(exfalso;omega)|exact bY (by decide)|assumption|skip
  all_goals first
   |exact absurd ‹bH k n i=k (n-1)› ‹_›
   |exact⟨rfl,i,⟨h2,h3,h4,fun j hj=>h5 j aa⟩,cP.vals rfl⟩
   |exact r (b1 ‹_› aa) aa
   |exact r (b2 ‹_› aa) aa
   |exact r (b3 ‹¬_=k 0› ‹_› (by have:=of_decide_eq_true ‹decide _=true›;omega)) aa
   |exact⟨i+1,⟨aa,h2,h3,h4,nx (g1 ‹_› aa) aa⟩,by dsimp only;omega,cP.vals rfl⟩
   |exact⟨i+1,⟨aa,h2,h3,h4,nx (g2 ‹_› aa) aa⟩,by dsimp only;omega,cP.vals rfl⟩
   |exact⟨i+1,⟨aa,h2,h3,h4,nx (g3 ‹¬_=k 0› ‹_› (by have:=of_decide_eq_false ‹decide _=false›;omega)) aa⟩,by dsimp only;omega,cP.vals rfl⟩
 ·simp only[ah.all,az]
  exact bQ (abi (by have:=h1;unfold vg at this;omega) (by have:=h1;unfold vg at this;omega) (by have:=h1;unfold vg at this;omega) h2).symm
def Ji:Spec:=cN (kC (kL sJ) (kC kI kN)) (fun a=>.int .i64 (gR a.1.1 a.1.2 a.2.1)) fun a=>[a.1.1<2^40]
theorem Mj:∀K args pre r,Ji K args pre=some r->aE P yS K args pre r:=cy fun⟨⟨n,k⟩,p,_⟩ K hn=>agI hn K
open Go Go.Am.N AV
def gG:AV->Pl
 |.agg [.agg [x,y,z],w]=>⟨⟨aR x,aR y,aR z⟩,aR w⟩
 |_=>⟨⟨0,0,0⟩,0⟩
def fT (f:Nat->AV) (n s:Nat):Prop:=∀i,i<n->bG (f i) (bE (gG (f i)) s)
abbrev jS (f:Nat->Pl) (n s:Nat):AV:=.aq 12 n (fun i=>bE (f i) s)
theorem Jr {u v:Pl} {n k:Nat} (h:u=v) (hk:n<=k):bG (bE u n) (bE v k):=
 h▸cC ⟨Er rfl hk,bM rfl hk,trivial⟩
theorem iM {f:Nat->Pl} {n s s':Nat} (h:s<=s'):fT (fun i=>bE (f i) s) n s':=fun _ _=>Jr rfl h
def vi:AV->Option (Nat×(Nat->AV))
 |.aq 12 n f=>some (n,f)
 |.nil=>some (0,fun _=>.nil)
 |_=>none
theorem aaO {v:AV} {n s:Nat} {f:Nat->AV} (h:vi v=some (n,f)) (ha:fT f n s):bG v (jS (fun i=>gG (f i)) n s):=by
 unfold vi at h
 split at h
 ·simp only[ay,Prod.mk.injEq]at h
  obtain⟨rfl,rfl⟩:=h
  exact fq ha
 ·simp only[ay,Prod.mk.injEq]at h
  obtain⟨rfl,rfl⟩:=h
  exact kX aa
 ·simp at h
def uA (s:Nat):Kind (Nat×(Nat->Pl)):=⟨fun v=>match vi v with
 |some (n,f)=>some ((n,fun i=>gG (f i)),[fT f n s])
 |none=>none,fun a=>jS a.2 a.1 s,fun {v a q} h hq=>by
  split at h
  ·rename_i h1
   simp only[ay,Prod.mk.injEq]at h
   obtain⟨rfl,rfl⟩:=h
   exact aaO h1 hq
  ·simp at h⟩
abbrev bu (h:Pl) (s:Nat):AV:=.agg [.rat h.n.x s,.rat h.n.y s,.rat h.n.z s,.rat h.d s]
def yF (s:Nat):Kind Pl:=⟨fun v=>match v with
 |.agg [x,y,z,w]=>match jj x,jj y,jj z,jj w with
  |some (x,a),some (y,b),some (z,c),some (w,d)=>some (⟨⟨x,y,z⟩,w⟩,[a<=s,b<=s,c<=s,d<=s])
  |_,_,_,_=>none
 |_=>none,fun a=>bu a s,fun {v a q} h hq=>by
  split at h
  ·split at h
   ·rename_i h1 h2 h3 h4
    simp only[ay,Prod.mk.injEq]at h
    obtain⟨rfl,rfl⟩:=h
    exact cC ⟨(kE h1).trans (bM rfl hq.1),(kE h2).trans (bM rfl hq.2.1),(kE h3).trans (bM rfl hq.2.2.1),(kE h4).trans (bM rfl hq.2.2.2),trivial⟩
   ·simp at h
  ·simp at h⟩
structure Cu where
 p:Int
 n:Nat
 k:Nat->Rat
 m:Nat
 f:Nat->Pl
abbrev aS (c:Cu) (s r:Nat):AV:=.agg [.int .i64 c.p,bq c.k c.n s,jS c.f c.m r]
def jb (s r:Nat):Kind Cu:=⟨fun v=>match v with
 |.agg [p,k,f]=>match kI.read p,(kL s).read k,(uA r).read f with
  |some (p,q1),some ((n,k),q2),some ((m,f),q3)=>some (⟨p,n,k,m,f⟩,q1++(q2++q3))
  |_,_,_=>none
 |_=>none,fun a=>aS a s r,fun {v a q} h hq=>by
  split at h
  ·split at h
   ·rename_i h1 h2 h3
    simp only[ay,Prod.mk.injEq]at h
    obtain⟨rfl,rfl⟩:=h
    obtain⟨q1,hq⟩:=eL.1 hq
    obtain⟨q2,q3⟩:=eL.1 hq
    exact cC ⟨kI.ok h1 q1,(kL s).ok h2 q2,(uA r).ok h3 q3,trivial⟩
   ·simp at h
  ·simp at h⟩
structure Sf where
 u:Int
 v:Int
 a:Nat
 ku:Nat->Rat
 b:Nat
 kv:Nat->Rat
 n:Nat
 m:Nat
 f:Nat->Nat->Pl
theorem Bo {rl:List (Nat×Nat)} {l i s s' s2:Nat} {x y:Nat->Pl} {t:AV} {z:AV} (hx:∀i,i<l->x i=y i) (ht:bG t (bE (y l) s')) (hk:keys t=[]) (h1:s<=s2) (h2:s'<=s2) (hi:i<l+1):
  eG rl (if i<l then bE (x i) s else nth [t] z (i-l+0)) (bE (y i) s2):=by
 by_cases h:i<l
 ·rw[if_pos h,hx i h];exact .inr ⟨rfl,Jr rfl h1⟩
 ·have:i=l:=aa
  subst this
  rw[if_neg h,Nat.sub_self]
  exact .inr ⟨hk,ht.trans (Jr rfl h2)⟩
open Go Go.Am.N AV ah au IntKind
theorem SW:aT P IP Br (aA Br):=aY Proofs.Tryz.func161 ag ag ag
theorem aiF:aT P Tp JG (aA JG):=aY Proofs.Tryz.func163 ag ag ag
theorem adh:aT P vN A5 (aA A5):=aY Proofs.Tryz.func75 ag ag ag
def PT:bg:=[(IP,ru T (sG::qk) [] 60 Br)]
def HJ:bg:=[(Tp,ru T (sG::PT) [] 60 JG)]
def Na:bg:=(yE,ja kR kR JB oV)::(IP,ru T nI [] 60 Br)::nI
abbrev sH:Nat:=2147483648
abbrev sE:Nat:=4294967298
def oU (h:Pl):V3:=⟨((1:Int):Rat)/h.d*h.n.x,((1:Int):Rat)/h.d*h.n.y,((1:Int):Rat)/h.d*h.n.z⟩
def P5:Spec:=cN (kC (yF sH) kN) (fun a=>.agg [vA (oU a.1) sE,.rat a.1.d sH]) fun _=>[]
abbrev eB (h:Pl) (s:Nat):ak:=⟨false,true,12,1,fun _=>bu h s⟩
theorem Uo {h:Pl} {s:Nat}:bW T Na [] 60 A5 (aA A5) ⟨aQ 0 [bu h s],[],0⟩=
  let c9:Prop:=(0:Int)<=(0:Int);let c8:Rat:=(↑(1:Int):Rat)/h.d;let c7:Int:=(↑(4:Nat):Int);let c6:Int:=(↑(3:Nat):Int);let c4:Nat:=2^41;let c3:Int:=i64.wrap ((0:Int)+(1:Int));let c2:Nat:=Max.max 1 (bN (Int.natAbs (1:Int)));let c1:Prop:=0<1;let c11:Int:=i64.wrap (c3+(1:Int));let c10:Prop:=(0:Int)<=(3:Int)/\(3:Int)<c7;let c5:Prop:=(0:Int)<=c11/\c11<c6;some (aj [-(2:Int)^63<=(1:Int),(1:Int)<(2:Int)^63,c10,c1,c2<c4,s<c4,c9/\(0:Int)<c7,c1,(0:Int)<=(1:Int)/\(1:Int)<c7,c1,(0:Int)<=(2:Int)/\(2:Int)<c7,c1,c1,c9/\(0:Int)<c6,c1,c2+s<c4,s<c4,c9/\(0:Int)<c6,c1,c1,(0:Int)<=c3/\c3<c6,c1,c2+s<c4,s<c4,(0:Int)<=c3/\c3<c6,c1,c1,c5,c1,c2+s<c4,s<c4,c5,c1,c1,c1,c1,c10,c1,c1] (aj [c1] (leaf ret [agg [agg [rat (c8*h.n.x) (c2+s+s),rat (c8*h.n.y) (c2+s+s),rat (c8*h.n.z) (c2+s+s)],rat h.d s]]))):=ag
def alP (c:Cu) (x:Nat->Rat) (b j:Nat):Pl:=
 ⟨⟨pq j fun j=>x j*((c.f (b+j)).d*(c.f (b+j)).n.x),pq j fun j=>x j*((c.f (b+j)).d*(c.f (b+j)).n.y),pq j fun j=>x j*((c.f (b+j)).d*(c.f (b+j)).n.z)⟩,pq j fun j=>x j*(c.f (b+j)).d⟩
def Yo (c:Cu) (t:Rat):Pl:=alP c (vB c.k (bT c.n c.k t) t c.p.toNat) (bT c.n c.k t-c.p.toNat) (c.p.toNat+1)
theorem aeI:bz P PT:=aL (sX hT (qm sA) hm SW _ _) bO
theorem LS:bz P HJ:=aL (sX hT (qm aeI) hm aiF _ _) bO
theorem aeb:bz P Na:=aL (jl fun _ _ K hn=>Hh hn.1 hn.2 K) (aL (sX hT pI hm SW _ _) pI)
theorem Mk {h:Pl} {s s':Nat} (hs:s<2^40) (hs':1+s+s<=s') (K:Nat):aE P vN K [bu h s] [] (aK (.agg [vA (oU h) s',.rat h.d s]) []):=by
 refine cj (r:=aK (.agg [vA (oU h) s',.rat h.d s]) []) hT aeb hm adh rfl aX rfl 60 (Uo (s:=s)) (fun _=>?_) K []
 have e1:i64.wrap ((0:Int)+1)=1:=rfl
 have e2:i64.wrap ((1:Int)+1)=2:=rfl
 simp only[ah.all,az,Oj,e1,e2]
 refine⟨?_,aa,cC ⟨cC ⟨bM rfl aa,bM rfl aa,bM rfl aa,trivial⟩,.refl _,trivial⟩⟩
 (repeat' with_reducible refine And.intro ?_ ?_)
 all_goals omega
theorem abk:∀K args pre r,P5 K args pre=some r->aE P vN K args pre r:=cy fun⟨h,_⟩ K _=>Mk (by decide) (by decide) K
def CF (c:Cu) (t:Rat):V3:=if eP c.n c.k t then⟨0,0,0⟩else oU (Yo c t)
abbrev QB (s:Sf):Sf:=⟨s.v,s.u,s.b,s.kv,s.a,s.ku,s.m,s.n,fun j i=>s.f i j⟩
abbrev tT:ak:=⟨false,true,3,1,fun _=>.agg [.int .i64 0,.nil,.nil]⟩
structure Cq (s:Sf):Prop where
 ku:Kn s.a s.u.toNat s.ku
 kv:Kn s.b s.v.toNat s.kv
 u0:0<=s.u
 u6:s.u<=6
 v0:0<=s.v
 v6:s.v<=6
 a:s.a<2^30
 b:s.b<2^30
 n:(s.n:Int)=(s.a:Int)-s.u-1
 m:(s.m:Int)=(s.b:Int)-s.v-1
theorem V8:aT P NK KE (aA KE):=aY Proofs.Tryz.func165 ag ag ag
theorem ajg:aT P qg ER (aA ER):=aY Proofs.Tryz.func69 ag ag ag
theorem aiE:aT P pV DQ (aA DQ):=aY Proofs.Tryz.func86 ag ag ag
theorem SM:aT P E2 vW (aA vW):=aY Proofs.Tryz.func68 ag ag ag
theorem aj8:aT P wk E0 (aA E0):=aY Proofs.Tryz.func96 ag ag ag
theorem TM:aT P Jl A9 (aA A9):=aY Proofs.Tryz.func56 ag ag ag
def cE (p:Pl):Pl:=⟨⟨p.d*p.n.x,p.d*p.n.y,p.d*p.n.z⟩,p.d⟩
def eI (h:Pl):Pl:=⟨⟨h.n.x/h.d,h.n.y/h.d,h.n.z/h.d⟩,h.d⟩
abbrev qf (f:Nat->Pl) (n s:Nat):AV:=.aq 12 n (fun i=>bu (f i) s)
abbrev dj (c:Cu) (s r:Nat):AV:=.agg [.int .i64 c.p,bq c.k c.n s,qf c.f c.m r]
def Po:bg:=nG::gI
def Cn:bg:=nG::(NK,ru T Po [] 80 KE)::gI
abbrev zG:List Nat:=[2,3,12,13,14]
abbrev HL (c:Cu) (r i:Nat):List AV:=[.ptr 0 0 3 0 [],.ptr 1 0 3 0 [],jS c.f c.m r,.int .i64 c.m,.int .i64 i]
abbrev Ia (c:Cu) (x w i:Nat):aF:=[(2,⟨true,true,12,i,fun j=>bu (cE (c.f j)) w⟩),(1,⟨false,true,3,1,fun _=>.agg [.int .i64 c.p,bq c.k c.n x,.own 2 12 0 i]⟩),(0,⟨false,true,3,1,fun _=>.agg [.int .i64 0,.nil,.nil]⟩)]
abbrev y7:Code:=aA DQ
def S3:bg:=nG::(Au,ja kR kR DK r7)::gI
def MX (f:Nat->Pl) (x:Nat->Rat) (b j:Nat):Pl:=
 ⟨⟨pq j fun j=>x j*(f (b+j)).n.x,pq j fun j=>x j*(f (b+j)).n.y,pq j fun j=>x j*(f (b+j)).n.z⟩,pq j fun j=>x j*(f (b+j)).d⟩
def B0:bg:=nG::(Ca,OW)::gI
abbrev xB:List Nat:=[4,5,2,6,7,36,37,38]
abbrev Gd (p i:Nat) (x:Nat->Rat) (j:Nat):List AV:=[.ptr 1 0 12 0 [],.int .i64 0,.ptr 0 0 3 0 [],.ptr 2 0 12 0 [],.int .i64 ((i:Int)-p),.aq 3 (p+1) (fun j=>.rat (x j) sV),.int .i64 ((p+1:Nat):Int),.int .i64 j]
abbrev p7 (c:Cu) (r:Nat):ak:=⟨false,true,3,1,fun _=>dj c sK r⟩
abbrev vM:Code:=aA vW
def oC:AV->Pl
 |.agg [x,y,z,w]=>⟨⟨aR x,aR y,aR z⟩,aR w⟩
 |_=>⟨⟨0,0,0⟩,0⟩
def ki (f:Nat->AV) (n s:Nat):Prop:=∀i,i<n->bG (f i) (bu (oC (f i)) s)
theorem aaK {v:AV} {n s:Nat} {f:Nat->AV} (h:vi v=some (n,f)) (ha:ki f n s):bG v (qf (fun i=>oC (f i)) n s):=by
 unfold vi at h
 split at h
 ·simp only[ay,Prod.mk.injEq]at h
  obtain⟨rfl,rfl⟩:=h
  exact fq ha
 ·simp only[ay,Prod.mk.injEq]at h
  obtain⟨rfl,rfl⟩:=h
  exact kX aa
 ·simp at h
theorem WG {h:Pl} {s:Nat}:bW T S3 [] 80 ER (aA ER) ⟨aQ 0 [bu h s],[],0⟩=
  let c8:Int:=(↑(3:Nat):Int);let c7:Int:=(↑(4:Nat):Int);let c5:Int:=(2:Int)^63;let c4:Prop:=s<2^42;let c2:Prop:=0<1;let c1:Int:=(0:Int)+(1:Int);let c6:Int:=c1+(1:Int);let c3:Prop:=(0:Int)<=(3:Int)/\(3:Int)<c7;some (aj [c3,c2,c4,(1:Nat)<2^42,c2] (aj [(0:Int)<=(0:Int)/\(0:Int)<c7,c2,c3,c2,c4,c4,(0:Int)<=(0:Int)/\(0:Int)<c8,c2] (aj [-c5<=c1/\c1<c5] (aj [(0:Int)<=c1/\c1<c7,c2,c3,c2,c4,c4,(0:Int)<=c1/\c1<c8,c2] (aj [-c5<=c6/\c6<c5] (aj [(0:Int)<=c6/\c6<c7,c2,c3,c2,c4,c4,(0:Int)<=c6/\c6<c8,c2] (aj [-c5<=c6+(1:Int)/\c6+(1:Int)<c5] (aj [c2,c2] (aj [c2] (leaf ret [agg [agg [rat (h.n.x/h.d) (s+s),rat (h.n.y/h.d) (s+s),rat (h.n.z/h.d) (s+s)],rat (h.d+0) (s+1+1)]])))))))))):=ag
theorem agp {c:Cu} {x r:Nat}:aH T Cn [] 60 zG (before y7 [1,1,0,1]) ⟨aQ 0 [aS c x r],[],0⟩=
  let c2:Prop:=0<1;let c1:AV:=agg [int i64 0,nil,nil];some (aj [c2,c2,c2] (aj [c2] (leaf normal ([ptr 4096 0 3 0 [],ptr 28672 0 3 0 [],aq 12 c.m fun i=>agg [agg [rat (c.f i).n.x r,rat (c.f i).n.y r,rat (c.f i).n.z r],rat (c.f i).d r],int i64 (↑c.m:Int),int i64 0],[((28672:Nat),aJ fun j=>if(j==0)=true then aV (agg ((c1.kids.set 0 (aV (int i64 c.p))).set 1 (aV (bq c.k c.n x))))else c1),((4096:Nat),aJ fun x=>c1)])))):=ag
theorem ah9 {c:Cu} {x r w i:Nat}:aH T Cn [15] 60 zG [part y7 [1,1,0,1,0,0]] ⟨aC zG (HL c r i),Ia c x w i,3⟩=
  let c17:Int:=(↑c.m:Int);let c16:Int:=(↑(3:Nat):Int);let c15:AV:=own 2 12 0 i;let c14:AV:=ptr 1 0 3 0 [];let c13:AV:=ptr 0 0 3 0 [];let c12:Int:=(↑(4:Nat):Int);let c11:Int:=(↑i:Int);let c10:AV:=rat 0 1;let c7:Nat×ak:=((0:Nat),aJ fun x=>agg [int i64 0,nil,nil]);let c5:AV:=aq 12 c.m fun i=>agg [agg [rat (c.f i).n.x r,rat (c.f i).n.y r,rat (c.f i).n.z r],rat (c.f i).d r];let c4:Int:=(2:Int)^63;let c3:Prop:=r<2^42;let c2:Int:=(0:Int)+(1:Int);let c1:Prop:=0<1;let c18:Int:=c11+(1:Int);let c9:AV:=agg [int i64 c.p,bq c.k c.n x,c15];let c8:Int:=c2+(1:Int);let c6:Pl:=c.f c11.toNat;some (fork (decide (c11<c17)) (aj [(0:Int)<=c11/\c11.toNat<c.m,c1] (aj [c1,c1,c1,(0:Int)<=(0:Int)/\(0:Int)<c16,c1,c1,c1,c3,c3,(0:Int)<=(0:Int)/\(0:Int)<c12,c1,-c4<=c2/\c2<c4,(0:Int)<=c2/\c2<c16,c1,c1,c1,c3,c3,(0:Int)<=c2/\c2<c12,c1,-c4<=c8/\c8<c4,(0:Int)<=c8/\c8<c16,c1,c1,c1,c3,c3,(0:Int)<=c8/\c8<c12,c1,-c4<=c8+(1:Int)/\c8+(1:Int)<c4,c1,c3,(1:Nat)<2^42,(0:Int)<=(3:Int)/\(3:Int)<c12,c1,c1,c1,c1,(1:Nat)*12<=2^24,(i+1)*((224:Nat)+1)*2<=2^47,c1] (aj [-c4<=c18/\c18<c4] (leaf normal ([c13,c14,c5,int i64 c17,int i64 c18],[(40963,ak.mk true true 12 (i+1) fun i_1=>if i_1<i then bu (cE (c.f i_1)) w else nth [agg [rat (c6.d*c6.n.x) (r+r),rat (c6.d*c6.n.y) (r+r),rat (c6.d*c6.n.z) (r+r),rat (c6.d+0) (r+1+1)]] (agg [c10,c10,c10,c10]) (i_1-i+0)),((1:Nat),aJ fun j=>if(j==0)=true then agg (c9.kids.set 2 (aV (own (nat_lit 40962+1) 12 0 (i+1))))else c9),c7]))))) (leaf (exit 0) ([c13,c14,c5,int i64 c17,int i64 c11],[(2,ak.mk true true 12 i fun j=>agg [rat ((c.f j).d*(c.f j).n.x) w,rat ((c.f j).d*(c.f j).n.y) w,rat ((c.f j).d*(c.f j).n.z) w,rat (c.f j).d w]),((1:Nat),aJ fun x_1=>agg [int i64 c.p,aq 3 c.n fun i=>rat (c.k i) x,c15]),c7]))):=ag
theorem afu {c:Cu} {x r w i:Nat}:cw T Cn [] 60 DQ [part y7 [1,1,1]] ⟨aC zG (HL c r i),Ia c x w i,3⟩=
  let c1:Prop:=0<1;some (aj [c1,c1] (aj [c1] (leaf ret [agg [int i64 c.p,aq 3 c.n fun i=>rat (c.k i) x,aq 12 i fun i=>agg [rat ((c.f (i+0)).d*(c.f (i+0)).n.x) w,rat ((c.f (i+0)).d*(c.f (i+0)).n.y) w,rat ((c.f (i+0)).d*(c.f (i+0)).n.z) w,rat (c.f (i+0)).d w]]]))):=ag
theorem WL {c:Cu} {r:Nat} {t:Rat}:aH T B0 [25,34] 60 xB (before vM [1,1,1,1,0,1]) ⟨aQ 0 [dj c sK r,.rat t sK],[],0⟩=
  let c16 : Nat := bT c.n (fun i => aR (rat (c.k i) sK)) t; let c15 : Prop := eP c.n (fun i => aR (rat (c.k i) sK)) t; let c14 : AV := ptr 8192 0 12 0 []; let c13 : AV := ptr 16384 0 12 0 []; let c12 : AV := ptr 0 0 (aV (dj c sK r)).size 0 []; let c11 : AV := rat 0 1; let c10 : Prop := 0 < 1; let c8 : Bool := fE c.n (fun i => aR (rat (c.k i) sK)) t != (0 : Int); let c6 : Nat × ak := ((0 : Nat), ak.mk false true (aV (dj c sK r)).size 1 fun x => agg [int i64 c.p, aq 3 c.n fun i => rat (c.k i) 4096, aq 12 c.m fun i => agg [rat (c.f i).n.x r, rat (c.f i).n.y r, rat (c.f i).n.z r, rat (c.f i).d r]]); let c7 : Nat := if c15 then 0 else c.p.toNat + 1; let c5 : Int := if c15 then (0 : Int) else (↑c16 : Int) - (↑c.p.toNat : Int); let c4 : AV := agg [c11, c11, c11, c11]; let c9 : ak := ak.mk false true 12 1 fun x => c4; let c3 : Int := c5 + (↑c7 : Int); let c2 : ah (List AV × aF) := leaf normal ([c14, int i64 (0 : Int), c12, c13, int i64 c5, aq 3 c7 fun j => rat (vB (fun i => aR (rat (c.k i) sK)) c16 t c.p.toNat j) 268435456, int i64 (↑c7 : Int), int i64 (0 : Int)], [((16384 : Nat), c9), c6, ((8192 : Nat), c9)]); let c1 : ah (List AV × aF) := aj [c10] (leaf ret ([c14, int i64 (7 : Int), c12, c13, int i64 c5, tuple [], tuple [], tuple []], [((16384 : Nat), c9), c6, ((8192 : Nat), ak.mk false true 12 1 fun j => if (j == 0) = true then aV (agg c4.kids) else c4)])); some (aj [c10, c10, c10, bP (fun i => rat (c.k i) sK) c.n sK, sK <= sK, Kn c.n c.p.toNat fun i => aR (rat (c.k i) sK), (0 : Int) <= c.p, c.p <= (6 : Int), c.n < 2 ^ 40] (fork c8 (aj [c8 = true] (fork true c1 c2)) (aj [c8 = false, -(2 : Int) ^ 63 <= c3 /\ c3 < (2 : Int) ^ 63, c10] (fork (bif false then true else decide (c3 > (↑c.m : Int))) c1 c2)))) := ag
theorem U9 {c:Cu} {h:Pl} {p i j s r:Nat} {x:Nat->Rat}:aH T B0 [39] 60 xB [part vM [1,1,1,1,0,1,0,0]] ⟨aC xB (Gd p i x j),[(2,eB h s),(1,eB ⟨⟨0,0,0⟩,0⟩ 1),(0,p7 c r)],3⟩=
  let c29:Int:=(↑i:Int)-(↑p:Int);let c26:AV:=ptr 0 0 3 0 [];let c24:AV:=ptr 2 0 12 0 [];let c23:AV:=ptr 1 0 12 0 [];let c21:AV:=rat 0 1;let c20:Int:=(↑(p+1):Int);let c19:AV:=aq 3 (p+1) fun j=>rat (x j) 268435456;let c16:Int:=(↑j:Int);let c15:Bool:=0==0;let c10:Int:=(↑(4:Nat):Int);let c9:Int:=(0:Int)+(1:Int);let c8:Nat:=2^42;let c7:Prop:=0<1;let c6:Int:=(2:Int)^63;let c33:Prop:=sV+r<c8;let c32:Rat:=x c16.toNat;let c31:Int:=c16+(1:Int);let c28:Prop:=(0:Int)<=c9/\c9<c10;let c18:Prop:=(0:Int)<=(0:Int)/\(0:Int)<c10;let c4:List (Nat×ak):=[((0:Nat),aJ fun x=>agg [int i64 c.p,aq 3 c.n fun i=>rat (c.k i) 4096,aq 12 c.m fun i=>agg [rat (c.f i).n.x r,rat (c.f i).n.y r,rat (c.f i).n.z r,rat (c.f i).d r]]),(1,ak.mk false true 12 1 fun x=>agg [c21,c21,c21,c21])];let c3:Int:=c9+(1:Int);let c2:Int:=c29+c16;let c30:Pl:=c.f c2.toNat;let c27:Prop:=(0:Int)<=c3/\c3<c10;let c25:Prop:=-c6<=c2/\c2<c6;let c17:Prop:=(0:Int)<=c2/\c2.toNat<c.m;let c12:Int:=c3+(1:Int);let c22:Prop:=(0:Int)<=c12/\c12<c10;let c11:AV:=agg ((bu h s).kids.set (Int.toNat (0:Int)) (aV (ir (h.n.x,s) (c32*c30.n.x,sV+r))));let c5:AV:=if c15=true then c11 else bu h s;let c13:AV:=agg (c5.kids.set c9.toNat (aV (ir (h.n.y,s) (c32*c30.n.y,sV+r))));let c1:AV:=if c15=true then c13 else c5;let c14:AV:=agg (c1.kids.set c3.toNat (aV (ir (h.n.z,s) (c32*c30.n.z,sV+r))));some (fork (decide (c16<c20)) (aj [(0:Int)<=c16/\c16.toNat<p+1,c7] (aj [c18,c7,c7,c7,c25,c17,c18,sV<c8,r<c8,s<c8,c33,c18,c7] (aj [-c6<=c9/\c9<c6] (aj [c28,c7,c7,c7,c25,c17,c28,sV<c8,r<c8,s<c8,c33,c28,c7] (aj [-c6<=c3/\c3<c6] (aj [c27,c7,c7,c7,c25,c17,c27,sV<c8,r<c8,s<c8,c33,c27,c7] (aj [-c6<=c12/\c12<c6] (aj [c22,c7,c7,c7,c25,c17,c22,sV<c8,r<c8,s<c8,c33,c22,c7] (aj [-c6<=c12+(1:Int)/\c12+(1:Int)<c6] (aj [-c6<=c31/\c31<c6] (leaf normal ([c23,int i64 0,c26,c24,int i64 c29,c19,int i64 c20,int i64 c31],(2,ak.mk false true 12 1 fun j=>if(j==0)=true then agg ((if c15=true then c14 else c1).kids.set c12.toNat (aV (ir (h.d,s) (c32*c30.d,sV+r))))else if(j==0)=true then c14 else if(j==0)=true then c13 else if(j==0)=true then c11 else bu h s)::c4)))))))))))) (leaf (exit 0) ([c23,int i64 0,c26,c24,int i64 c29,c19,int i64 c20,int i64 c16],(2,ak.mk false true 12 1 fun x=>agg [rat h.n.x s,rat h.n.y s,rat h.n.z s,rat h.d s])::c4))):=ag
theorem ac2 {c:Cu} {h:Pl} {p i j s r:Nat} {x:Nat->Rat}:cw T B0 [] 60 vW [part vM [1,1,1,1,1]] ⟨aC xB (Gd p i x j),[(2,eB h s),(1,eB ⟨⟨0,0,0⟩,0⟩ 1),(0,p7 c r)],3⟩=
  let c1:Prop:=0<1;some (aj [c1,c1] (aj [c1] (leaf ret [agg [rat h.n.x s,rat h.n.y s,rat h.n.z s,rat h.d s],int i64 0]))):=ag
theorem afW:bz P Po:=cZ iG
theorem VR:bz P Cn:=cZ (aL (sX hT afW hm V8 _ _) iG)
theorem adm:bz P S3:=cZ (aL (jl fun _ _ K hn=>Ib hn.1 hn.2 K) iG)
theorem Pr:bz P B0:=cZ (aL abo iG)
theorem qL {rl:List (Nat×Nat)} {l i:Nat} {f g:Nat->AV} {v z:AV} (hf:∀i,i<l->f i=g i/\keys (f i)=[]) (hk:keys v=[]) (hv:bG v (g l)) (hi:i<l+1):eG rl (if i<l then f i else nth [v] z (i-l+0)) (g i):=by
 by_cases h:i<l
 ·rw[if_pos h];exact cL (hf i h).2 (hf i h).1
 ·have:i=l:=aa
  subst this
  rw[if_neg h,Nat.sub_self]
  exact .inr ⟨hk,hv⟩
theorem pT {rl:List (Nat×Nat)} {p:Int} {v:AV} {a b i:Nat} (hv:keys v=[]) (ht:v.isTuple=false) (h:bh rl b=some a):eG rl (.agg [.int .i64 p,v,.own a 12 0 i]) (.agg [.int .i64 p,v,.own b 12 0 i]):=
 fW ⟨⟨rfl,aN rfl⟩,⟨ht,aN hv⟩,⟨rfl,cD h rfl rfl⟩,trivial⟩
theorem AX {h h':Pl} {s s':Nat} (e:h=h') (hs:s<=s'):bG (bu h s) (bu h' s'):=e▸cC ⟨bM rfl hs,bM rfl hs,bM rfl hs,bM rfl hs,trivial⟩
theorem GH {h:Pl} {s w:Nat} (hs:s<2^40) (h1:s+s<=w) (h2:s+2<=w) (K:Nat):aE P qg K [bu h s] [] (aK (bE (eI h) w) []):=by
 refine cj (r:=aK (bE (eI h) w) []) hT adm hm ajg rfl aX rfl 80 WG (fun _=>?_) K []
 simp only[ah.all,az]
 (repeat' with_reducible refine And.intro ?_ ?_)
 all_goals first|omega|skip
 exact cC ⟨cC ⟨bM rfl h1,bM rfl h1,bM rfl h1,trivial⟩,bM (Rat.add_zero _) aa,trivial⟩
theorem Ou {c:Cu} {x r w:Nat} (h1:r+r<=w) (h2:r+2<=w) (hw:w<2^40) (hn:c.n<2^40) (hm2:c.m<2^30) (K:Nat):aE P pV K [aS c x r] [] (aK (.agg [.int .i64 c.p,bq c.k c.n x,qf (fun i=>cE (c.f i)) c.m w]) []):=by
 refine fI (r:=aK (.agg [.int .i64 c.p,bq c.k c.n x,qf (fun i=>cE (c.f i)) c.m w]) []) hT VR hm aiE rfl aX rfl [1,1,0,1] (i:=0) (y:=part y7 [1,1,0,1,0,0]) (z:=part y7 [1,1,1]) ag ag ag (f1:=[]) (f2:=[15]) (f3:=[]) 60 zG 3
  (fun i:Nat=>HL c r i) (fun i=>Ia c x w i) (fun i=>i<=c.m) (fun i=>i=c.m) (fun i=>c.m-i) (fun _=>⟨⟨_,agp,?_⟩,fun i hi=>⟨_,ah9,?_⟩,fun i hi=>⟨_,afu,?_⟩⟩) K []
 ·simp only[ah.all,az]
  exact⟨aa,aa,0,Nat.zero_le _,[(0,4096),(1,28672)],rfl,rfl,rfl,gU rfl aa aa (bD rfl rfl (fW ⟨⟨rfl,aN rfl⟩,⟨rfl,aN rfl⟩,⟨rfl,iZ aa⟩,trivial⟩) (aB trivial))⟩
 ·set_option maxRecDepth 10000 in simp only[ah.all,az,aZ,bk,aW,Nat.add_zero]
  refine⟨fun h=>⟨aa,aa,aa,i+1,aa,by dsimp only;omega,[(0,0),(1,1),(2,40963)],rfl,rfl,rfl,bL rfl rfl rfl (fun j hj=>qL (g:=fun j=>bu (cE (c.f j)) w) (fun _ _=>⟨rfl,rfl⟩) rfl (cC ⟨bM rfl h1,bM rfl h1,bM rfl h1,bM (Rat.add_zero _) aa,trivial⟩) hj) (bD rfl rfl (pT rfl rfl rfl) (aB trivial))⟩,
   fun h=>⟨rfl,i,aa,[(0,0),(1,1),(2,2)],rfl,rfl,rfl,bp (bD rfl rfl (pT rfl rfl rfl) (aB trivial))⟩⟩
 ·subst hi
  simp only[ah.all,az]
  exact⟨aa,aa,.refl _⟩
theorem Zy {c:Cu} {r:Nat}:j4 T vW .ret ⟨aC [4,5,2,6] [.ptr 8192 0 12 0 [],.int .i64 7,.ptr 0 0 3 0 [],.ptr 16384 0 12 0 []],[(16384,⟨false,true,12,1,fun _=>.agg [.rat 0 1,.rat 0 1,.rat 0 1,.rat 0 1]⟩),(0,p7 c r),(8192,⟨false,true,12,1,fun j=>if(j==0)=true then aV (.agg (AV.kids (.agg [.rat 0 1,.rat 0 1,.rat 0 1,.rat 0 1])))else .agg [.rat 0 1,.rat 0 1,.rat 0 1,.rat 0 1]⟩)],16385⟩=
  let c1:AV:=rat 0 1;some (aj [(0:Nat)<1] (leaf ret [agg [c1,c1,c1,c1],int i64 7])):=ag
def o7 (c:Cu) (t:Rat):Pl:=if eP c.n c.k t then⟨⟨0,0,0⟩,0⟩else MX c.f (vB c.k (bT c.n c.k t) t c.p.toNat) (bT c.n c.k t-c.p.toNat) (c.p.toNat+1)
theorem Vm {c:Cu} {t:Rat} {r s:Nat} (hr:1+7*(sV+r+1)<=s) (hs:s<2^40) (hk:Kn c.n c.p.toNat c.k) (h0:0<=c.p) (h6:c.p<=6) (hn:c.n<2^40) (hm2:(c.m:Int)=(c.n:Int)-c.p-1) (K:Nat):aE P E2 K [dj c sK r,.rat t sK] [] (aK (.tuple [bu (o7 c t) s,.int .i64 (fE c.n c.k t)]) []):=by
 refine gr (r:=aK (.tuple [bu (o7 c t) s,.int .i64 (fE c.n c.k t)]) []) hT SM rfl aX rfl (fun _ cx h00=>?_) K []
 have hkp:=m7 h00
 obtain⟨q,hq⟩:∃q,q=c.p.toNat:=⟨_,rfl⟩
 have hq2:c.p=(q:Int):=aa
 obtain⟨i,hi⟩:∃i,i=bT c.n c.k t:=⟨_,rfl⟩
 obtain⟨x,hx⟩:∃x,x=vB c.k i t q:=⟨_,rfl⟩
 have h1:sK=4096:=rfl
 have h2:sV=268435456:=rfl
 have z0:1+0*(sV+r+1)=1:=aa
 have zle:∀j,j<=7->1+j*(sV+r+1)<=s:=fun j hj=>by
  have:=Nat.mul_le_mul_right (sV+r+1) hj
  omega
 refine ax.kG hT Pr hm (x:=vM) [1,1,1,1,0,1] (i:=0) (y:=part vM [1,1,1,1,0,1,0,0]) (z:=part vM [1,1,1,1,1]) ag ag ag SM.dst hkp (f1:=[25,34]) (f2:=[39]) 60 xB 3 (fun j:Nat=>Gd q i x j) (fun j=>[(2,eB (MX c.f x (i-q) j) (1+j*(sV+r+1))),(1,eB ⟨⟨0,0,0⟩,0⟩ 1),(0,p7 c r)])
  (fun j=>j<=q+1/\¬eP c.n c.k t) (fun j=>j=q+1/\¬eP c.n c.k t) (fun j=>q+1-j) (rL T vW [4,5,2,6] (.tuple [bu (o7 c t) s,.int .i64 (fE c.n c.k t)])) ⟨_,WL,?_⟩ (fun j ⟨hj,hin⟩=>⟨_,U9,?_⟩) (fun j ⟨hj,hin⟩=>?_) (fun v s' hv hs'=>hv.fin (L1:=[7,36,37,38]) hkp hs')
 ·simp only[ah.all,az,ye,bne_iff_ne,ne_eq,bne_eq_false_iff_eq]
  have hko:eP c.n (fun i=>c.k i) t=eP c.n c.k t:=rfl
  have hkE:fE c.n (fun i=>c.k i) t=fE c.n c.k t:=rfl
  have hkI:bT c.n (fun i=>c.k i) t=bT c.n c.k t:=rfl
  simp only[hko,hkE,hkI]
  refine⟨⟨aa,aa,aa,bY aU,aU,hk,h0,h6,hn⟩,fun hout=>⟨hout,fun _=>⟨aa,?_⟩,fun h=>absurd h (by decide)⟩,fun he=>?_⟩
  ·have ho:=NY hout
   refine⟨[_,_,_,_],_,16385,_,rfl,rfl,rfl,Zy,rfl,⟨⟨aa,fun i _=>rfl⟩,⟨aa,fun i _=>rfl⟩,⟨aa,fun i _=>oZ rfl rfl⟩,trivial⟩,Nat.zero_lt_one,?_⟩
   exact⟨AX (h:=⟨⟨0,0,0⟩,0⟩) (by unfold o7;rw[if_pos ho]) aa,bQ (by unfold fE;rw[if_pos ho]),trivial⟩
  ·have hin:=Sk he
   have hiv:=hk.Hf hin
   simp only[if_neg hin]
   refine⟨⟨he,aa,aa⟩,fun h=>?_,fun _=>⟨0,⟨Nat.zero_le _,hin⟩,[(0,0),(1,8192),(2,16384)],rfl,?_,rfl,bD rfl rfl (cL rfl (by rw[z0];rfl)) (aB (aB trivial))⟩⟩
   ·exfalso
    rw[cond_false,aZ]at h
    omega
   ·show _=(Gd q i x 0).map _
    rw[hx,hq,hi];rfl
 ·have hiv:=hk.Hf hin
  rw[<-hi,<-hq]at hiv
  simp only[ah.all,az,aZ,bk,show((i:Int)-q+j).toNat=i-q+j by omega,aW]
  refine⟨fun h=>?_,fun h=>⟨rfl,j,⟨aa,hin⟩,[(0,0),(1,1),(2,2)],rfl,rfl,rfl,aB (aB (aB trivial))⟩⟩
  have hz:=zle j aa
  have hzS:1+(j+1)*(sV+r+1)=1+j*(sV+r+1)+(sV+r+1):=by rw[Nat.add_mul,Nat.one_mul];omega
  have hz2:=zle (j+1) aa
  generalize 1+j*(sV+r+1)=zj at*
  (repeat' with_reducible refine And.intro ?_ ?_)
  all_goals first|omega|skip
  exact⟨j+1,⟨aa,hin⟩,by dsimp only;omega,[(0,0),(1,1),(2,2)],rfl,rfl,rfl,bD rfl rfl (.inr ⟨rfl,cC ⟨bM rfl aa,bM rfl aa,bM rfl aa,bM rfl aa,trivial⟩⟩) (aB (aB trivial))⟩
 ·subst hj
  refine ax.j3 ((aI.fin hT Pr hm 60 ac2 ag ?_).mono fun _ _ h=>.inl h)
  simp only[ah.all,az]
  have hz:=zle (q+1) aa
  refine⟨aa,aa,?_,bQ (by unfold fE;rw[if_neg hin]),trivial⟩
  exact AX (by unfold o7;rw[if_neg hin,<-hi,<-hq,<-hx]) hz
def rE (s r:Nat):Kind Cu:=⟨fun v=>match v with
 |.agg [p,k,f]=>match kI.read p,(kL s).read k,vi f with
  |some (p,q1),some ((n,k),q2),some (m,f)=>some (⟨p,n,k,m,fun i=>oC (f i)⟩,q1++(q2++[ki f m r]))
  |_,_,_=>none
 |_=>none,fun a=>dj a s r,fun {v a q} h hq=>by
  split at h
  ·split at h
   ·rename_i h1 h2 h3
    simp only[ay,Prod.mk.injEq]at h
    obtain⟨rfl,rfl⟩:=h
    obtain⟨q1,hq⟩:=eL.1 hq
    obtain⟨q2,q3⟩:=eL.1 hq
    exact cC ⟨kI.ok h1 q1,(kL s).ok h2 q2,aaK h3 q3,trivial⟩
   ·simp at h
  ·simp at h⟩
def LG:Spec:=cN (kC (jb sJ sJ) kN) (fun a=>dj ⟨a.1.p,a.1.n,a.1.k,a.1.m,fun i=>cE (a.1.f i)⟩ sJ (sJ+sJ)) fun a=>[a.1.n<2^40,a.1.m<2^30]
def QJ:Spec:=cN (kC (rE sK (sJ+sJ)) (kC (gx sK) kN)) (fun a=>.tuple [bu (o7 a.1 a.2.1) sH,.int .i64 (fE a.1.n a.1.k a.2.1)]) fun a=>[Kn a.1.n a.1.p.toNat a.1.k,0<=a.1.p,a.1.p<=6,a.1.n<2^40,(a.1.m:Int)=(a.1.n:Int)-a.1.p-1]
def OB:Spec:=cN (kC (yF sH) kN) (fun a=>bE (eI a.1) sE) fun _=>[]
def fe (c:Cu):Prop:=Kn c.n c.p.toNat c.k/\1<=c.p/\c.p<=6/\c.n<=c.p.toNat+41/\(c.m:Int)=(c.n:Int)-c.p-1
def OG:bg:=nG::(yS,Ji)::(s9,pF)::[]
def xK:Spec:=cN (kC (jb sJ sJ) kN) (fun _=>.bool true) fun a=>[fe a.1]
def PO:bg:=nG::(wk,xK)::(pV,LG)::(E2,QJ)::(qg,OB)::[]
theorem ab7 {c:Cu}:bW T OG [100009] 60 E0 (aA E0) ⟨aQ 0 [aS c sJ sJ],[],0⟩=
  let c2:Prop:=c.n<2^40;let c1:Prop:=0<1;some (aj [c1,c1,bP (fun i=>rat (c.k i) sJ) c.n sJ,c2,(gR c.n (fun i=>aR (rat (c.k i) sJ)) c.p==(0:Int))=true,c1,c1,c1,bP (fun i=>rat (c.k i) sJ) c.n sK,c2,-(2:Int)^40<c.p,c.p<(2:Int)^40] (leaf ret [AV.bool (bif true then(↑c.m:Int)==(↑c.n:Int)-c.p-(1:Int)else false)])):=ag
theorem ajm {c:Cu} {t:Rat}:bW T PO [20] 60 A9 (aA A9) ⟨aQ 0 [aS c sJ sJ,.rat t sK],[],0⟩=
  let c7 : Prop := c.n < 2 ^ 40; let c6 : Prop := fT (fun i => bE (c.f i) sJ) c.m sJ; let c5 : Prop := bP (fun i => rat (c.k i) sJ) c.n sJ; let c4 : AV := rat 0 1; let c3 : Int := fE c.n (fun i => aR (rat (aR (rat (c.k i) sJ)) sJ)) t; let c2 : Prop := 0 < 1; let c1 : Pl := o7 (Cu.mk c.p c.n (fun i => aR (rat (aR (rat (c.k i) sJ)) sJ)) c.m fun i => oC (bu (cE (gG (bE (c.f i) sJ))) (sJ + sJ))) t; some (aj [c2, c5, c6, fe (Cu.mk c.p c.n (fun i => aR (rat (c.k i) sJ)) c.m fun i => gG (bE (c.f i) sJ))] (aj [c2, c5, c6, c7, c.m < 2 ^ 30, c2, bP (fun i => rat (aR (rat (c.k i) sJ)) sJ) c.n sK, ki (fun i => bu (cE (gG (bE (c.f i) sJ))) (sJ + sJ)) c.m (sJ + sJ), sK <= sK, Kn c.n c.p.toNat fun i => aR (rat (aR (rat (c.k i) sJ)) sJ), (0 : Int) <= c.p, c.p <= (6 : Int), c7, (↑c.m : Int) = (↑c.n : Int) - c.p - (1 : Int), c2] (fork (c3 != (0 : Int)) (aj [c2] (aj [c2] (leaf ret [agg [c4, c4, c4], int i64 c3]))) (aj [c2, sH <= sH, sH <= sH, sH <= sH, sH <= sH, c2] (aj [c2] (leaf ret [agg [rat (c1.n.x / c1.d) 4294967298, rat (c1.n.y / c1.d) 4294967298, rat (c1.n.z / c1.d) 4294967298], int i64 (0 : Int)])))))) := ag
theorem aeJ:∀K args pre r,LG K args pre=some r->aE P pV K args pre r:=cy fun⟨c,_⟩ K hn=>Ou aU (by decide) (by decide) hn.1 hn.2 K
theorem Xe:∀K args pre r,QJ K args pre=some r->aE P E2 K args pre r:=cy fun⟨c,t,_⟩ K hn=>Vm (by decide) (by decide) hn.1 hn.2.1 hn.2.2.1 hn.2.2.2.1 hn.2.2.2.2 K
theorem ZU:∀K args pre r,OB K args pre=some r->aE P qg K args pre r:=cy fun⟨h,_⟩ K _=>GH (by decide) (by decide) (by decide) K
theorem adF:bz P OG:=cZ (aL Mj (aL zA bO))
theorem EY:∀K args pre r,xK K args pre=some r->aE P wk K args pre r:=cy fun⟨c,_⟩ K hn=>by
 obtain⟨h1,h2,h3,h4,h5⟩:fe c:=hn
 refine cj (r:=aK (.bool true) []) hT adF hm aj8 rfl aX rfl 60 ab7 (fun _=>?_) K []
 have hc0:gR c.n c.k c.p=0:=by have:=h1.OI aa h4;rwa [Int.toNat_of_nonneg aa]at this
 simp only[ah.all,az]
 exact⟨⟨aa,aa,bY aU,aa,beq_iff_eq.2 hc0,aa,aa,aa,bY (by decide),aa,aa,aa⟩,fB (beq_iff_eq.2 h5)⟩
theorem aid:bz P PO:=cZ (aL EY (aL aeJ (aL Xe (aL ZU bO))))
theorem div_one {a b:Rat}:a/b=((1:Int):Rat)/b*a:=by
 rw[Rat.div_def,Rat.div_def,show((1:Int):Rat)=1 from rfl,Rat.one_mul,Rat.mul_comm]
theorem yc {h:Pl}:(eI h).n=oU h:=by
 show V3.mk (h.n.x/h.d) (h.n.y/h.d) (h.n.z/h.d)=V3.mk _ _ _
 rw[div_one (a:=h.n.x),div_one (a:=h.n.y),div_one (a:=h.n.z)]
def RP:Spec:=cN (kC (jb sJ sJ) (kC (gx sK) kN)) (fun a=>.tuple [vA (CF a.1 a.2.1) sE,.int .i64 (fE a.1.n a.1.k a.2.1)]) fun a=>[fe a.1]
theorem YF:∀K args pre r,RP K args pre=some r->aE P Jl K args pre r:=cy fun⟨c,t,_⟩ K hn=>by
 have hc:fe c:=hn
 obtain⟨h1,h2,h3,h4,h5⟩:=id hc
 refine cj (r:=aK (.tuple [vA (CF c t) sE,.int .i64 (fE c.n c.k t)]) []) hT aid hm TM rfl aX rfl 60 ajm (fun _=>?_) K []
 have e1:fE c.n (fun i=>aR (rat (aR (rat (c.k i) sJ)) sJ)) t=fE c.n c.k t:=rfl
 simp only[ah.all,az,e1,bne_iff_ne,ne_eq,bne_eq_false_iff_eq]
 refine⟨⟨aa,bY aU,iM aU,hc⟩,⟨aa,bY aU,iM aU,aa,aa,aa,bY (by decide),fun _ _=>.refl _,aU,h1,aa,h3,aa,h5,aa⟩,fun hout=>⟨aa,aa,?_⟩,fun hin=>⟨⟨aa,aU,aU,aU,aU,aa⟩,aa,?_⟩⟩
 ·refine⟨Er (u:=⟨0,0,0⟩) (by unfold CF;rw[if_pos (NY hout)]) (by decide),.refl _,trivial⟩
 ·have ho:=Sk hin
  refine⟨Er (u:=(eI (o7 ⟨c.p,c.n,c.k,c.m,fun i=>cE (c.f i)⟩ t)).n) ?_ (by decide),bQ hin.symm,trivial⟩
  rw[yc]
  unfold CF o7
  rw[if_neg ho,if_neg ho];rfl
theorem Th:aT P Hg mG (aA mG):=aY Proofs.Tryz.func218 ag ag ag
def um:bg:=nG::(s9,pF)::(DR,KQ)::gI
abbrev oK (p:Nat) (x:Nat->Rat) (s:Nat->Nat):aF:=[(1,kH (p+1) x s),(0,zO)]
abbrev Ek:Code:=aA mG
abbrev rY:Code:=part Ek [1,1,1,1,0,1,0,0]
abbrev zg:Code:=part rY [1,1,0,0]
abbrev sB:Nat:=536870912
theorem Aj:bz P um:=cZ (aL zA (aL Pc iG))
def ig (n:Nat) (k:Nat->Rat) (p m l:Nat) (i:Int):Int:=if(m:Int)≠(n:Int)-p-1\/l≠p then 1 else if i<p\/(m:Int)<=i\/k (i.toNat+1)<=k i.toNat then 7 else 0
def mM (n:Nat) (k:Nat->Rat) (p m:Nat) (c:Nat->Rat) (i:Int) (l:Nat) (a:Nat->Rat):Rat:=if ig n k p m l i=0 then bR k (i.toNat-p) p a (fun j=>c (i.toNat-p+j)) p p else 0
abbrev TC (n:Nat) (k:Nat->Rat) (p m:Nat) (c:Nat->Rat) (i:Int) (l:Nat) (a:Nat->Rat):AV:=.tuple [.rat (mM n k p m c i l a) sB,.int .i64 (ig n k p m l i)]
theorem aeT {n p m l:Nat} {k c a:Nat->Rat} {i e:Int} (h:ig n k p m l i=e) (he:e≠0):eF [.agg [.bool false,.mag 0,.mag 0],.int .i64 e] (TC n k p m c i l a):=
 ⟨by unfold mM;rw[if_neg (by rw[h];exact he)];exact lT,bQ h.symm,trivial⟩
theorem SN {n p m l:Nat} {k:Nat->Rat} {i:Int} (h:(m:Int)≠(n:Int)-p-1\/l≠p):ig n k p m l i=1:=if_pos h
theorem KB {n p m l:Nat} {k:Nat->Rat} {i:Int} (h:(m:Int)=(n:Int)-p-1) (hl:l=p) (h2:i<p\/(m:Int)<=i\/k (i.toNat+1)<=k i.toNat):ig n k p m l i=7:=by
 unfold ig;rw[if_neg aa,if_pos h2]
theorem Dr {n p m l:Nat} {k:Nat->Rat} {i:Int} (h:(m:Int)=(n:Int)-p-1) (hl:l=p) (h2:¬(i<p\/(m:Int)<=i\/k (i.toNat+1)<=k i.toNat)):ig n k p m l i=0:=by
 unfold ig;rw[if_neg aa,if_neg h2]
def lf (k:Nat->Rat) (b p r:Nat) (t:Rat) (x:Nat->Rat) (j i:Nat):Rat:=if i<=j then x i else gz k b p r t x i
def jt (r j i:Nat):Nat:=if i<=j then SB r else SB (r+1)
theorem Rc {rl:List (Nat×Nat)} {k:Nat->Rat} {b p r j i s:Nat} {t:Rat} {x:Nat->Rat} (hj:r<j) (hs:s<=SB (r+1)):
  eG rl (.rat (bif i==j then lf k b p r t x j (j-1)+fr (k (b+j)) (k (b+j+(p-r))) t*(lf k b p r t x j j-lf k b p r t x j (j-1))else lf k b p r t x j i) (bif i==j then s else jt r j i)) (.rat (lf k b p r t x (j-1) i) (jt r (j-1) i)):=by
 refine .inr ⟨rfl,?_⟩
 by_cases h:i=j
 ·subst h
  simp only[beq_self_eq_true,cond_true]
  refine bM ?_ ?_
  ·unfold lf
   rw[if_pos aa,if_pos aa,if_neg aa]
   unfold gz
   rw[if_pos hj]
  ·unfold jt
   rw[if_neg aa];exact hs
 ·have hb:(i==j)=false:=by simpa using h
  rw[hb]
  refine bM ?_ ?_
  ·simp only[cond_false]
   unfold lf
   by_cases h2:i<=j
   ·rw[if_pos h2,if_pos aa]
   ·rw[if_neg h2,if_neg aa]
  ·simp only[cond_false]
   unfold jt
   by_cases h2:i<=j
   ·rw[if_pos h2,if_pos aa];exact Nat.le_refl _
   ·rw[if_neg h2,if_neg aa];exact Nat.le_refl _
theorem M6 {k:Nat->Rat} {b p r i:Nat} {t:Rat} {x:Nat->Rat}:lf k b p r t x r i=gz k b p r t x i:=by
 unfold lf
 split
 ·unfold gz;rw[if_neg aa]
 ·rfl
theorem Tg:aT P BN xz (aA xz):=aY Proofs.Tryz.func114 ag ag ag
def nF:bg:=nG::(yE,ja kR kR JB oV)::nI
abbrev pn:List Nat:=[10,0,1,3,4,11,12]
abbrev uG (n:Nat) (k:Nat->Rat) (p i:Nat) (a:Nat->Rat) (r:Nat):List AV:=[.ptr 0 0 3 0 [],ls k n,.int .i64 p,.int .i64 i,ls a p,.own 1 3 0 (p+1),.int .i64 ((r+1:Nat):Int)]
abbrev A2:Code:=aA xz
abbrev tn:Code:=part A2 [1,1,0,1,0,0]
abbrev yy:Code:=part tn [1,0,0]
abbrev wW:List Nat:=[10,0,1,3,4,11,12,13]
abbrev J3 (n:Nat) (k:Nat->Rat) (p i:Nat) (a:Nat->Rat) (r j:Nat):List AV:=[.ptr 0 0 3 0 [],ls k n,.int .i64 p,.int .i64 i,ls a p,.own 1 3 0 (p+1),.int .i64 ((r+1:Nat):Int),.int .i64 j]
theorem US {n m p i:Nat} {k c a:Nat->Rat}:aH T nF [] 60 pn (before A2 [1,1,0,1]) ⟨aQ 0 [ls k n,.int .i64 p,ls c m,.int .i64 i,ls a p],[],0⟩=
  let c4:Int:=(2:Int)^63;let c2:Int:=(↑i:Int)-(↑p:Int);let c1:Int:=(↑i:Int)+(1:Int);let c3:Nat:=0+(c1.toNat-c2.toNat);some (aj [(0:Nat)*3<=2^24,-c4<=c2/\c2<c4,-c4<=c1/\c1<c4,(0:Int)<=c2/\c2<=c1/\c1<=c1/\c1<=(↑m:Int),c3*((56:Nat)+1)*2<=2^47] (leaf normal ([ptr 0 0 3 0 [],aq 3 n fun i=>rat (k i) 4096,int i64 (↑p:Int),int i64 (↑i:Int),aq 3 p fun i=>rat (a i) 4096,own 36864 3 0 c3,int i64 1],[(36864,ak.mk true true 3 c3 fun i=>rat (c (i-0+c2.toNat)) 4096),((0:Nat),aJ fun x=>rat 0 1)]))):=ag
theorem Yx {n p i r:Nat} {k a x:Nat->Rat} {s:Nat->Nat}:aH T nF [28] 60 pn (before tn [1,0]) ⟨aC pn (uG n k p i a r),oK p x s,2⟩=
  let c2:Int:=(↑(r+1):Int);let c1:List AV×aF:=([ptr 0 0 3 0 [],aq 3 n fun i=>rat (k i) 4096,int i64 (↑p:Int),int i64 (↑i:Int),aq 3 p fun i=>rat (a i) 4096,own 1 3 0 (p+1),int i64 c2],[(1,ak.mk true true 3 (p+1) fun i=>rat (x i) (s i)),((0:Nat),aJ fun x=>rat 0 1)]);some (fork (decide (c2<=(↑p:Int))) (leaf normal c1) (leaf (exit 0) c1)):=ag
theorem ZL {n p i r:Nat} {k a x:Nat->Rat} {s:Nat->Nat}:aH T nF [] 60 wW (before yy [1]) ⟨aC pn (uG n k p i a r),oK p x s,2⟩=
  some (leaf normal ([ptr 0 0 3 0 [],aq 3 n fun i=>rat (k i) 4096,int i64 (↑p:Int),int i64 (↑i:Int),aq 3 p fun i=>rat (a i) 4096,own 1 3 0 (p+1),int i64 (↑(r+1):Int),int i64 (↑p:Int)],[(1,ak.mk true true 3 (p+1) fun i=>rat (x i) (s i)),((0:Nat),aJ fun x=>rat 0 1)])):=ag
theorem ZV {n p i r j:Nat} {k a x:Nat->Rat} {s:Nat->Nat}:aH T nF [34] 60 wW [part yy [1,0,0]] ⟨aC wW (J3 n k p i a r j),oK p x s,2⟩=
  let c25:Int:=(↑i:Int);let c17:AV:=ptr 0 0 3 0 [];let c15:AV:=aq 3 p fun i=>rat (a i) 4096;let c14:AV:=aq 3 n fun i=>rat (k i) 4096;let c13:Nat×ak:=((0:Nat),aJ fun x=>rat 0 1);let c12:Prop:=0<1;let c11:Nat:=p+1;let c10:Nat:=sK+sK+1;let c5:Int:=(↑j:Int);let c4:Nat:=2^41;let c3:Int:=(↑(r+1):Int);let c2:Int:=(2:Int)^63;let c23:Prop:=(0:Int)<=c5/\c5.toNat<c11;let c20:AV:=own 1 3 0 c11;let c16:Int:=c3-(1:Int);let c9:Nat:=c5.toNat+0;let c8:Int:=c25-(↑p:Int);let c7:Int:=c25+(1:Int);let c1:Int:=c5-(1:Int);let c24:Nat:=(c8+c5).toNat;let c22:Prop:=(0:Int)<=c1/\c1.toNat<c11;let c21:Prop:=-c2<=c1/\c1<c2;let c19:Int:=c7+c5-c3;let c6:Nat:=c1.toNat+0;let c18:Nat:=s c9+s c6+1;some (fork (decide (c5>=c3)) (aj [-c2<=c8/\c8<c2,-c2<=c8+c5/\c8+c5<c2,(0:Int)<=c8+c5/\c24<n,-c2<=c7/\c7<c2,-c2<=c7+c5/\c7+c5<c2,-c2<=c19/\c19<c2,(0:Int)<=c19/\c19.toNat<n,c12,c12] (aj [-c2<=c16/\c16<c2,(0:Int)<=c16/\c16.toNat<p,c12,sK<c4,sK<c4,c12,c12,sK<c4,sK<c4,c10<c4,c10<c4,c12] (aj [c21,c22,c6<c11,c12,c23,c9<c11,c21,c22,c6<c11,s c9<c4,s c6<c4,c10+c10<c4,c18<c4,s c6<c4,c10+c10+c18<c4,c23,c9<c11] (aj [c21] (leaf normal ([c17,c14,int i64 (↑p:Int),int i64 c25,c15,c20,int i64 c3,int i64 c1],[(1,ak.mk true true 3 c11 fun j=>rat (bif j==c9 then x c6+(a c16.toNat-k c24)/(k c19.toNat-k c24)*(x c9-x c6)else x j) (bif j==c9 then s c6+(c10+c10+c18)+1 else s j)),c13])))))) (leaf (exit 2) ([c17,c14,int i64 (↑p:Int),int i64 c25,c15,c20,int i64 c3,int i64 c5],[(1,ak.mk true true 3 c11 fun i=>rat (x i) (s i)),c13]))):=ag
theorem aaf {n p i r j:Nat} {k a x:Nat->Rat} {s:Nat->Nat}:aH T nF [] 60 pn [part tn [1,1]] ⟨aC wW (J3 n k p i a r j),oK p x s,2⟩=
  let c1:Int:=(↑(r+1):Int)+(1:Int);some (aj [-(2:Int)^63<=c1/\c1<(2:Int)^63] (leaf normal ([ptr 0 0 3 0 [],aq 3 n fun i=>rat (k i) 4096,int i64 (↑p:Int),int i64 (↑i:Int),aq 3 p fun i=>rat (a i) 4096,own 1 3 0 (p+1),int i64 c1],[(1,ak.mk true true 3 (p+1) fun i=>rat (x i) (s i)),((0:Nat),aJ fun x=>rat 0 1)]))):=ag
theorem ac7 {n p i r:Nat} {k a x:Nat->Rat} {s:Nat->Nat}:cw T nF [] 60 xz [part A2 [1,1,1]] ⟨aC pn (uG n k p i a r),oK p x s,2⟩=
  let c1:Nat:=(↑p:Int).toNat+0;some (aj [(0:Int)<=(↑p:Int)/\(↑p:Int).toNat<p+1,c1<p+1,(0:Nat)<1] (aj [(0:Nat)<1] (leaf ret [rat (x c1) (s c1)]))):=ag
theorem uZ:bz P nF:=cZ (aL (jl fun _ _ K hn=>Hh hn.1 hn.2 K) pI)
theorem ada {n p m i:Nat} {k c a:Nat->Rat} (hp1:1<=p) (hp6:p<=6) (hn:n<2^40) (hm2:m<2^40) (hpi:p<=i) (him:i<m) (hin:i+p<n) (K:Nat):aE P BN K [ls k n,.int .i64 p,ls c m,.int .i64 i,ls a p] [] (aK (.rat (bR k (i-p) p a (fun j=>c (i-p+j)) p p) sB) []):=by
 refine gr (r:=aK (.rat (bR k (i-p) p a (fun j=>c (i-p+j)) p p) sB) []) hT Tg rfl aX rfl (fun _ cx h0=>?_) K []
 have hk:=m7 h0
 obtain⟨b,hb⟩:∃b,b=i-p:=⟨_,rfl⟩
 obtain⟨x,hx⟩:∃x:Nat->Nat->Rat,x=fun r=>bR k b p a (fun j=>c (b+j)) r:=⟨_,rfl⟩
 have hx0:x 0=fun j=>c (b+j):=by rw[hx];rfl
 have hxS:∀r,x (r+1)=gz k b p r (a r) (x r):=fun r=>by rw[hx];rfl
 have hSF:=Ao
 have hSK:sK=4096:=rfl
 have hSV:sV=268435456:=rfl
 refine ax.tY hT uZ hm [1,1,0,1] (i:=0) (y:=tn) (z:=part A2 [1,1,1]) ag ag ag Tg.dst hk (f1:=[]) 60 pn 2 (fun r:Nat=>uG n k p i a r) (fun r=>oK p (x r) fun _=>SB r)
  (fun r=>r<=p) (fun r=>r=p) (fun r=>p-r) (fun _=>False) ⟨_,US,?_⟩ (fun r hr=>?_) (fun r hr=>?_) (fun _ _ h=>h.elim)
 ·have e0:0+(((i:Int)+1).toNat-((i:Int)-(p:Int)).toNat)=p+1:=aa
  simp only[ah.all,az,e0]
  refine⟨⟨aa,aa,aa,aa,aa⟩,0,aa,[(0,0),(1,36864)],rfl,rfl,rfl,bL rfl rfl rfl (fun j hj=>?_) (aB trivial)⟩
  rw[hx0,show((i:Int)-(p:Int)).toNat=b by omega,Nat.sub_zero,Nat.add_comm j b]
  exact .inr ⟨rfl,bM rfl (show sK<=SB 0 by decide)⟩
 ·refine ax.nP hT uZ hm (y:=tn) (x1:=yy) (zb:=part tn [1,1]) [1,0] (j:=1) ag ag ag ag hk (f1:=[28]) 60 pn 2 (fun _:Unit=>uG n k p i a r) (fun _=>oK p (x r) fun _=>SB r) (fun _=>r<p) ⟨_,Yx,?_⟩ (fun _ hr'=>?_)
  ·simp only[ah.all,az,aZ,bk]
   have re:∀{s:Nat->Nat} {y:Nat->Rat},cP [] ([ptr 0 0 3 0 [],aq 3 n fun i=>rat (k i) sK,int i64 p,int i64 i,aq 3 p fun i=>rat (a i) sK,own 1 3 0 (p+1),int i64 ((r+1:Nat):Int)],[(1,ak.mk true true 3 (p+1) fun i=>rat (y i) (s i)),((0:Nat),aJ fun x=>rat 0 1)]) (uG n k p i a r) (oK p y s) 2:=
    ⟨[(0,0),(1,1)],rfl,rfl,rfl,bL rfl rfl rfl (fun i hi=>cL rfl rfl) (aB trivial)⟩
   exact⟨fun h1=>⟨(),aa,re⟩,fun h1 s' hs'=>⟨rfl,r,aa,re.le hs' hk⟩⟩
  have h1:=rH (d:=r)
  have h2:=sP (d:=r) aa
  have h3:=yz (d:=r)
  refine ax.oE hT uZ hm (x:=yy) [1] (i:=2) (y:=part yy [1,0,0]) ag ag ag hk (f1:=[]) (f2:=[34]) 60 wW 2 (fun j:Nat=>J3 n k p i a r j) (fun j=>oK p (lf k b p r (a r) (x r) j) (jt r j)) (fun j=>r<=j/\j<=p) (fun j=>j=r) (fun j=>j) (fun _=>False) ⟨_,ZL,?_⟩ (fun j hj=>⟨_,ZV,?_⟩) (fun j s' hj hle=>?_) (fun _ _ h=>h.elim)
  ·simp only[ah.all,az,aW]
   refine⟨p,aa,[(0,0),(1,1)],rfl,rfl,rfl,bL rfl rfl rfl (fun j hj=>cL rfl ?_) (aB trivial)⟩
   unfold lf jt
   rw[if_pos aa,if_pos aa]
  ·obtain⟨hj1,hj2⟩:=hj
   have e1:((i:Int)-(p:Int)+(j:Int)).toNat=b+j:=aa
   have e4:(((r+1:Nat):Int)-1).toNat=r:=aa
   have u1:∀{j':Nat},j'<=j->jt r j j'=SB r:=fun h=>by unfold jt;rw[if_pos h]
   simp only[ah.all,az,aZ,bk,e1,e4,aW,Nat.add_zero]
   refine⟨fun h4=>?_,fun h4=>⟨rfl,j,aa,[(0,0),(1,1)],rfl,rfl,rfl,bL rfl rfl rfl (fun j hj=>cL rfl rfl) (aB trivial)⟩⟩
   have e2:((i:Int)+1+(j:Int)-((r+1:Nat):Int)).toNat=b+j+(p-r):=aa
   have e3:((j:Int)-1).toNat=j-1:=aa
   have u2:=u1 (j':=j) aU
   have u3:=u1 (j':=j-1) aa
   simp only[e2,e3,u2,u3]
   (repeat' with_reducible refine And.intro ?_ ?_)
   all_goals first|omega|skip
   exact⟨j-1,aa,by dsimp only;omega,[(0,0),(1,1)],rfl,by rw[show(j:Int)-1=((j-1:Nat):Int) by omega];rfl,rfl,bL rfl rfl rfl (fun q hq=>Rc aa aa) (aB trivial)⟩
  ·subst hj
   show ax P cx xz.ntmps (part tn [1,1]) s' _
   refine ax.jA hle (ax.bA hT uZ hm 60 pn aaf ag ?_)
   simp only[ah.all,az]
   refine⟨aa,fun s' hs'=>⟨j+1,aa,by dsimp only;omega,cP.le ⟨[(0,0),(1,1)],rfl,rfl,rfl,bL rfl rfl rfl (fun q hq=>?_) (aB trivial)⟩ hs' hk⟩⟩
   refine .inr ⟨rfl,bM (by rw[M6,hxS]) ?_⟩
   show jt j j q<=SB (j+1)
   unfold jt
   split<;>omega
 ·subst hr
  refine ax.j3 ((aI.fin hT uZ hm 60 ac7 ag ?_).mono fun _ _ h=>.inl h)
  have h2:=sP (d:=r) hp6
  simp only[ah.all,az,aW,Nat.add_zero]
  refine⟨⟨aa,aa,aa⟩,aa,bM ?_ (by show SB r<=536870912;omega)⟩
  rw[hx,hb]
abbrev TS:pP ((Nat×(Nat->Rat))×Int×(Nat×(Nat->Rat))×Int×(Nat×(Nat->Rat))×Unit):=kC (kL sK) (kC kI (kC (kL sK) (kC kI (kC (kL sK) kN))))
def Qu:Spec:=cN TS (fun a=>.rat (bR a.1.2 (a.2.2.2.1.toNat-a.2.1.toNat) a.2.1.toNat a.2.2.2.2.1.2 (fun j=>a.2.2.1.2 (a.2.2.2.1.toNat-a.2.1.toNat+j)) a.2.1.toNat a.2.1.toNat) sB) fun a=>[1<=a.2.1,a.2.1<=6,a.1.1<2^40,a.2.2.1.1<2^40,a.2.1<=a.2.2.2.1,a.2.2.2.1<a.2.2.1.1,a.2.2.2.1+a.2.1<a.1.1,(a.2.2.2.2.1.1:Int)=a.2.1]
theorem Ut:∀K args pre r,Qu K args pre=some r->aE P BN K args pre r:=cy fun⟨⟨n,k⟩,p,⟨m,c⟩,i,⟨l,a⟩,_⟩ K hn=>by
 obtain⟨h1,h2,h3,h4,h5,h6,h7,h8⟩:=hn
 have h8:(l:Int)=p:=h8
 simp only at h1 h2 h3 h4 h5 h6 h7
 have:=ada (p:=p.toNat) (i:=i.toNat) (k:=k) (c:=c) (a:=a) aa aa h3 h4 aa aa aa K
 rw[Int.toNat_of_nonneg aa,Int.toNat_of_nonneg aa]at this
 have hl:l=p.toNat:=aa
 subst hl
 exact this
abbrev kV (m:Nat) (c:Nat->Rat):ak:=⟨true,true,3,m,fun i=>.rat (c i) sK⟩
abbrev oy:List Nat:=[10,11,2,4,0,1,3,12,66,67,68]
abbrev vO (n:Nat) (k:Nat->Rat) (p m:Nat) (a:Nat->Rat) (i:Nat) (r:Nat):List AV:=[.ptr 1 0 3 0 [],.int .i64 0,.own 0 3 0 m,ls a p,ls k n,.int .i64 p,.int .i64 i,.own 2 3 0 (p+1),ls a p,.int .i64 p,.int .i64 r]
abbrev oq (p m:Nat) (c:Nat->Rat) (x:Nat->Rat) (s:Nat->Nat):aF:=[(2,kH (p+1) x s),(1,zO),(0,kV m c)]
abbrev yx:List Nat:=[10,11,2,4,0,1,3,12,66,67,68,13,14,15]
abbrev Li (n:Nat) (k:Nat->Rat) (p m:Nat) (a:Nat->Rat) (i:Nat) (r j:Nat):List AV:=[.ptr 1 0 3 0 [],.int .i64 0,.own 0 3 0 m,ls a p,ls k n,.int .i64 p,.int .i64 i,.own 2 3 0 (p+1),ls a p,.int .i64 p,.int .i64 r,.int .i64 r,.ptr 3 0 3 0 [],.int .i64 j]
theorem Y0 {n m p l:Nat} {k c a:Nat->Rat} {i:Int}:aH T um [18,25,36,42,32] 60 oy (before Ek [1,1,1,1,0,1]) ⟨aQ 0 [ls k n,.int .i64 p,.own 0 3 0 m,.int .i64 i,ls a l],[(0,kV m c)],1⟩=
  let c28 : Prop := n < 2 ^ 40; let c27 : Prop := sK < 2 ^ 42; let c26 : Prop := bP (fun i => rat (k i) sK) n sK; let c25 : AV := own 0 3 0 m; let c24 : Int := i + (1 : Int); let c23 : AV := aq 3 n fun i => rat (k i) 4096; let c20 : Int := (2 : Int) ^ 40; let c19 : AV := rat 0 1; let c17 : Nat × ak := ((0 : Nat), ak.mk true true 3 m fun i => rat (c i) 4096); let c15 : AV := ptr 1 0 3 0 []; let c14 : AV := aq 3 l fun i => rat (a i) 4096; let c13 : Int := (2 : Int) ^ 63; let c12 : Int := (↑m : Int); let c5 : Int := (↑p : Int); let c21 : Bool := decide (i < c5); let c18 : Bool := c12 != (↑n : Int) - c5 - (1 : Int); let c16 : Bool := bif false then true else decide (i >= c12); let c11 : Int := c5 + (1 : Int); let c10 : Int := dM (k i.toNat) (k c24.toNat); let c8 : List AV := [c25, c14, c23, int i64 c5, int i64 i, tuple [], tuple [], tuple [], tuple []]; let c7 : List Prop := [(0 : Int) <= i /\ i.toNat < n, -c13 <= c24 /\ c24 < c13, (0 : Int) <= c24 /\ c24.toNat < n, c27, c27]; let c6 : List (Nat × ak) := [c17, ((1 : Nat), aJ fun j => if (j == 0) = true then aV (agg c19.kids) else c19)]; let c22 : Bool := bif false then true else decide (c10 >= (0 : Int)); let c9 : Nat := 0 + Min.min (c12.toNat - (i - c5).toNat) c11.toNat; let c4 : ah (List AV × aF) := aj [(0 : Nat) < 1] (leaf ret (c15 :: int i64 (1 : Int) :: c8, c6)); let c2 : ah (List AV × aF) := aj [(0 : Nat) < 1] (leaf ret (c15 :: int i64 (7 : Int) :: c8, c6)); let c1 : ah (List AV × aF) := aj [-c13 <= c11 /\ c11 < c13, (0 : Int) <= c11 /\ c11 <= c11 /\ c11 <= (2 : Int) ^ 47 /\ c11 * (↑(56 : Nat) : Int) <= (2 : Int) ^ 47] (aj [-c13 <= i - c5 /\ i - c5 < c13, (0 : Int) <= i - c5 /\ i - c5 <= c12 /\ c12 <= c12 /\ c12 <= c12] (leaf normal ([c15, int i64 (0 : Int), c25, c14, c23, int i64 c5, int i64 i, own 163841 3 0 c11.toNat, c14, int i64 (↑l : Int), int i64 (0 : Int)], [((163841 : Nat), ak.mk true true 3 c11.toNat fun i_1 => if 0 <= i_1 /\ i_1 < c9 then rat (c (i_1 - 0 + ((0 : Nat) + (i - c5).toNat))) sK else c19), c17, ((1 : Nat), aJ fun x => c19)]))); let c3 : ah (List AV × aF) := fork c21 (fork true (aj [c21 = true, true = true] (fork true c2 c1)) (aj ((c21 = true) :: (true = false) :: c7) (fork c22 c2 c1))) (fork c16 (aj [c21 = false, c16 = true] (fork true c2 c1)) (aj ((c21 = false) :: (c16 = false) :: c7) (fork c22 c2 c1))); some (fork c18 (aj [c26, c28, -c20 < c5, c5 < c20, c18 = true] (fork true c4 c3)) (aj [c26, c28, -c20 < c5, c5 < c20, c18 = false] (fork (bif false then true else (↑l : Int) != c5) c4 c3))) := ag
theorem acV {e:Int} {m:Nat} {c:Nat->Rat}:AW T mG .ret ⟨aC [10,11,2] [.ptr 1 0 3 0 [],.int .i64 e,.own 0 3 0 m],[(0,kV m c),(1,⟨false,true,3,1,fun j=>if(j==0)=true then aV (agg (kids (.rat 0 1)))else .rat 0 1⟩)],2⟩=
  some (aj [(0:Nat)<1] (leaf ret ([agg [AV.bool false,mag 0,mag 0],int i64 e],some (ak.mk true true 3 m fun i=>rat (c i) 4096)))):=ag
theorem YP {n p m i r:Nat} {k a c x:Nat->Rat} {s:Nat->Nat}:aH T um [69] 60 oy (before rY [1,1,0]) ⟨aC oy (vO n k p m a i r),oq p m c x s,3⟩=
  let c3:Int:=(↑p:Int);let c2:AV:=aq 3 p fun i=>rat (a i) 4096;let c1:List AV×aF:=([ptr 1 0 3 0 [],int i64 0,own 0 3 0 m,c2,aq 3 n fun i=>rat (k i) 4096,int i64 c3,int i64 (↑i:Int),own 2 3 0 (p+1),c2,int i64 c3,int i64 (↑r:Int)],[(2,ak.mk true true 3 (p+1) fun i=>rat (x i) (s i)),(0,ak.mk true true 3 m fun i=>rat (c i) 4096),((1:Nat),aJ fun x=>rat 0 1)]);some (fork (decide ((↑r:Int)<c3)) (leaf normal c1) (leaf (exit 1) c1)):=ag
theorem UU {n p m i r:Nat} {k a c x:Nat->Rat} {s:Nat->Nat}:aH T um [] 60 yx (before zg [1,1]) ⟨aC oy (vO n k p m a i r),oq p m c x s,3⟩=
  let c4:AV:=rat 0 1;let c3:Int:=(↑r:Int);let c2:AV:=int i64 (↑p:Int);let c1:AV:=aq 3 p fun i=>rat (a i) 4096;some (aj [(0:Int)<=c3/\c3.toNat<p,(0:Nat)<1] (leaf normal ([ptr 1 0 3 0 [],int i64 0,own 0 3 0 m,c1,aq 3 n fun i=>rat (k i) 4096,c2,int i64 (↑i:Int),own 2 3 0 (p+1),c1,c2,int i64 c3,int i64 c3,ptr 12291 0 3 0 [],c2],[((12291:Nat),aJ fun j=>if(j==0)=true then aV (rat (a c3.toNat) sK)else c4),(2,ak.mk true true 3 (p+1) fun i=>rat (x i) (s i)),(0,ak.mk true true 3 m fun i=>rat (c i) 4096),((1:Nat),aJ fun x=>c4)]))):=ag
theorem Xs {n p m i r j:Nat} {k a c x:Nat->Rat} {s:Nat->Nat} {t:Rat}:aH T um [76] 60 yx [part zg [1,1,0,0]] ⟨aC yx (Li n k p m a i r j),(3,tP t sK)::oq p m c x s,4⟩=
  let c27:Int:=(↑r:Int);let c23:Int:=(↑i:Int);let c21:AV:=own 0 3 0 m;let c19:Prop:=0<1;let c17:AV:=ptr 3 0 3 0 [];let c16:AV:=ptr 1 0 3 0 [];let c15:AV:=aq 3 n fun i=>rat (k i) 4096;let c13:Int:=(↑p:Int);let c12:Int:=(↑j:Int);let c11:Nat×ak:=((3:Nat),aJ fun x=>rat t 4096);let c10:Nat:=2^42;let c8:Nat:=p+1;let c7:AV:=aq 3 p fun i=>rat (a i) 4096;let c6:List (Nat×ak):=[(0,ak.mk true true 3 m fun i=>rat (c i) 4096),((1:Nat),aJ fun x=>rat 0 1)];let c3:Int:=(2:Int)^63;let c26:AV:=int i64 c13;let c24:Prop:=(0:Int)<=c12/\c12.toNat<c8;let c20:AV:=own 2 3 0 c8;let c14:AV:=int i64 c27;let c4:Nat:=c12.toNat+0;let c2:Int:=c23-c13+c12;let c1:Int:=c12-(1:Int);let c25:Prop:=(0:Int)<=c1/\c1.toNat<c8;let c22:Prop:=-c3<=c1/\c1<c3;let c9:Int:=c2+c13-c27;let c5:Nat:=c1.toNat+0;let c18:Nat:=s c4+s c5+1;some (fork (decide (c12>c27)) (aj [-c3<=c23-c13/\c23-c13<c3,-c3<=c2/\c2<c3] (aj [(0:Int)<=c2/\c2.toNat<n,-c3<=c2+c13/\c2+c13<c3,-c3<=c9/\c9<c3,(0:Int)<=c9/\c9.toNat<n,c19,sK<=sK,sK<=sK,sK<=sK,c19] (aj [c22,c25,c5<c8,c19,c24,c4<c8,c22,c25,c5<c8,s c4<c10,s c5<c10,sF<c10,c18<c10,s c5<c10,sF+c18<c10,c24,c4<c8] (aj [c22] (leaf normal ([c16,int i64 0,c21,c7,c15,c26,int i64 c23,c20,c7,c26,c14,c14,c17,int i64 c1],c11::(2,ak.mk true true 3 c8 fun j=>rat (bif j==c4 then x c5+fr (k c2.toNat) (k c9.toNat) t*(x c4-x c5)else x j) (bif j==c4 then s c5+(sF+c18)+1 else s j))::c6)))))) (leaf (exit 3) ([c16,int i64 0,c21,c7,c15,c26,int i64 c23,c20,c7,c26,c14,c14,c17,int i64 c12],c11::(2,ak.mk true true 3 c8 fun i=>rat (x i) (s i))::c6))):=ag
theorem alm {n p m i r j:Nat} {k a c x:Nat->Rat} {s:Nat->Nat} {t:Rat}:aH T um [] 60 oy [part rY [1,1,1]] ⟨aC yx (Li n k p m a i r j),(3,tP t sK)::oq p m c x s,4⟩=
  let c2:Int:=(↑r:Int)+(1:Int);let c1:AV:=aq 3 p fun i=>rat (a i) 4096;some (aj [-(2:Int)^63<=c2/\c2<(2:Int)^63] (leaf normal ([ptr 1 0 3 0 [],int i64 0,own 0 3 0 m,c1,aq 3 n fun i=>rat (k i) 4096,int i64 (↑p:Int),int i64 (↑i:Int),own 2 3 0 (p+1),c1,int i64 (↑p:Int),int i64 c2],[(2,ak.mk true true 3 (p+1) fun i=>rat (x i) (s i)),(0,ak.mk true true 3 m fun i=>rat (c i) 4096),((1:Nat),aJ fun x=>rat 0 1)]))):=ag
theorem Xz {n p m i r:Nat} {k a c x:Nat->Rat} {s:Nat->Nat}:Jm T um [] 60 mG [part Ek [1,1,1,1,1]] ⟨aC oy (vO n k p m a i r),oq p m c x s,3⟩=
  let c1:Nat:=(↑p:Int).toNat+0;some (aj [(0:Int)<=(↑p:Int)/\(↑p:Int).toNat<p+1,c1<p+1,s c1<2^42,(1:Nat)<2^42,(0:Nat)<1] (aj [(0:Nat)<1] (leaf ret ([rat (x c1+0) (s c1+1+1),int i64 0],some (ak.mk true true 3 m fun i=>rat (c i) 4096))))):=ag
theorem VC {n p m l:Nat} {k c a:Nat->Rat} {i:Int} (hp1:1<=p) (hp6:p<=6) (hn:n<2^40) (hm2:m<2^40) (hi:-2^40<i) (hi2:i<2^40) (cx:Ctx) (hk:Kept [0] cx):
  ax P cx mG.ntmps (aA mG) ⟨aQ 0 [ls k n,.int .i64 p,.own 0 3 0 m,.int .i64 i,ls a l],[(0,kV m c)],1⟩ (dP cx (zU T mG [.rat (mM n k p m c i l a) sB,.int .i64 (ig n k p m l i)] (kV m c))):=by
 obtain⟨b,hb⟩:∃b,b=i.toNat-p:=⟨_,rfl⟩
 obtain⟨x,hx⟩:∃x:Nat->Nat->Rat,x=fun r=>bR k b p a (fun j=>c (b+j)) r:=⟨_,rfl⟩
 have hx0:x 0=fun j=>c (b+j):=by rw[hx];rfl
 have hxS:∀r,x (r+1)=gz k b p r (a r) (x r):=fun r=>by rw[hx];rfl
 have hSF:=Ao
 have hSK:sK=4096:=rfl
 have hSV:sV=268435456:=rfl
 have hrow:∀(l:Nat) (a:Nat->Rat) (w:Bool) (ρ:Nat->Option Nat),cV ρ ⟨true,w,3,l,fun i=>.rat (a i) sK⟩ ⟨true,w,3,l,fun i=>.rat (a i) sK⟩:=fun l a w ρ=>jq rfl fun _ _=>aN rfl
 refine ax.tY hT Aj hm [1,1,1,1,0,1] (i:=1) (y:=rY) (z:=part Ek [1,1,1,1,1]) ag ag ag Th.dst hk (f1:=[18,25,36,42,32]) 60 oy 3 (fun r:Nat=>vO n k p m a i.toNat r) (fun r=>oq p m c (x r) fun _=>SB r)
  (fun r=>r<=p/\ig n k p m l i=0) (fun r=>r=p/\ig n k p m l i=0) (fun r=>p-r) (CZ T mG [10,11,2] [.rat (mM n k p m c i l a) sB,.int .i64 (ig n k p m l i)] (kV m c)) ⟨_,Y0,?_⟩ (fun r ⟨hr,he⟩=>?_) (fun r ⟨hr,he⟩=>?_) (fun v s' hv hs'=>hv.fin (L1:=[4,0,1,3,12,66,67,68]) hk hs')
 ·simp only[ah.all,az,ye,bne_iff_ne,ne_eq,bne_eq_false_iff_eq,aW,cond_false,aZ,bk,xT]
  have ret:∀{e:Int} {us:List AV},ig n k p m l i=e->e≠0->bC us=[]->CZ T mG [10,11,2] [.rat (mM n k p m c i l a) sB,.int .i64 (ig n k p m l i)] (kV m c) ([ptr 1 0 3 0 [],int i64 e,own 0 3 0 m]++us,[((0:Nat),kV m c),((1:Nat),aJ fun j=>if(j==0)=true then aV (agg (kids (.rat 0 1)))else .rat 0 1)]):=fun {e us} h1 h2 h3=>
   ⟨[_,_,_],us,2,_,rfl,rfl,h3,acV,rfl,⟨⟨aa,fun i _=>rfl⟩,⟨aa,fun i _=>oZ rfl rfl⟩,trivial⟩,aa,Nat.zero_lt_one,rfl,rfl,aeT h1 h2,⟨_,rfl,hrow _ _ _⟩⟩
  (repeat' with_reducible first|refine And.intro ?_ ?_|intro _)
  all_goals first|omega|exact bY aU|exact absurd ‹true=false› (by decide)|assumption|skip
  all_goals first|exact ret (SN (.inl ‹_›)) (by decide) rfl|exact ret (SN (.inr aa)) (by decide) rfl|skip
  all_goals first|exact ret (KB aa aa (.inl aa)) (by decide) rfl|exact ret (KB aa aa (.inr (.inl aa))) (by decide) rfl|skip
  all_goals have e1:(i+1).toNat=i.toNat+1:=aa
  ·exact ret (KB aa aa (.inr (.inr (by rw[<-e1];assumption)))) (by decide) rfl
  ·rename_i h1
   rw[e1]at h1
   have hlp:l=p:=aa
   subst hlp
   refine⟨0,⟨aa,Dr aa rfl (by rintro(h|h|h)<;>first|omega|exact h1 h)⟩,[(0,0),(1,1),(2,163841)],rfl,?_,rfl,bL rfl rfl aa (fun j hj=>?_) (aB (bL rfl rfl rfl (fun j hj=>cL rfl rfl) trivial))⟩
   ·rw[show((l:Int)+1).toNat=l+1 by omega]
    show _=[_,_,_,_,_,_,AV.int i64 ((i.toNat:Nat):Int),_,_,_,_]
    rw[show((i.toNat:Nat):Int)=i by omega]
    rfl
   ·rw[if_pos aa,hx0,show(i-(l:Int)).toNat=b by omega,Nat.sub_zero,Nat.zero_add,Nat.add_comm j b]
    exact .inr ⟨rfl,bM rfl (show sK<=SB 0 by decide)⟩
 ·have hin:(m:Int)=(n:Int)-p-1/\p<=i.toNat/\i.toNat<m/\i.toNat=b+p/\l=p:=by
   unfold ig at he
   split at he
   ·omega
   ·split at he
    ·omega
    ·omega
  obtain⟨i1,i2,i3,i4,i5⟩:=hin
  subst i5
  have hr4:∀{s:Nat->Nat} {y:Nat->Rat},iE 3 [(0,0),(1,1),(2,2)] [(2,ak.mk true true 3 (l+1) fun i=>rat (y i) (s i)),((0:Nat),kV m c),((1:Nat),aJ fun x=>rat 0 1)] (oq l m c y s):=bL rfl rfl rfl (fun j hj=>cL rfl rfl) (aB (bL rfl rfl rfl (fun j hj=>cL rfl rfl) trivial))
  refine ax.nP hT Aj hm (y:=rY) (x1:=zg) (zb:=part rY [1,1,1]) [1,1,0] (j:=2) ag ag ag ag hk (f1:=[69]) 60 oy 3 (fun _:Unit=>vO n k l m a i.toNat r) (fun _=>oq l m c (x r) fun _=>SB r) (fun _=>r<l) ⟨_,YP,?_⟩ (fun _ hr'=>?_)
  ·simp only[ah.all,az,aZ,bk]
   have re:∀{s:Nat->Nat} {y:Nat->Rat},cP [0] ([ptr 1 0 3 0 [],int i64 0,own 0 3 0 m,ls a l,aq 3 n fun i=>rat (k i) sK,int i64 l,int i64 (i.toNat:Nat),own 2 3 0 (l+1),ls a l,int i64 l,int i64 (r:Nat)],[(2,ak.mk true true 3 (l+1) fun i=>rat (y i) (s i)),((0:Nat),kV m c),((1:Nat),aJ fun x=>rat 0 1)]) (vO n k l m a i.toNat r) (oq l m c y s) 3:=
    ⟨[(0,0),(1,1),(2,2)],rfl,rfl,rfl,hr4⟩
   exact⟨fun h1=>⟨(),aa,re⟩,fun h1 s' hs'=>⟨rfl,r,⟨aa,he⟩,re.le hs' hk⟩⟩
  have h1:=rH (d:=r)
  have h2:=sP (d:=r) aa
  have h3:=yz (d:=r)
  refine ax.oE hT Aj hm (x:=zg) [1,1] (i:=3) (y:=part zg [1,1,0,0]) ag ag ag hk (f1:=[]) (f2:=[76]) 60 yx 4 (fun j:Nat=>Li n k l m a i.toNat r j) (fun j=>(3,tP (a r) sK)::oq l m c (lf k b l r (a r) (x r) j) (jt r j)) (fun j=>r<=j/\j<=l) (fun j=>j=r) (fun j=>j) (fun _=>False) ⟨_,UU,?_⟩ (fun j hj=>⟨_,Xs,?_⟩) (fun j s' hj hle=>?_) (fun _ _ h=>h.elim)
  ·simp only[ah.all,az,aW]
   refine⟨⟨aa,aa⟩,l,aa,[(0,0),(1,1),(2,2),(3,12291)],rfl,rfl,rfl,aB (bL rfl rfl rfl (fun j hj=>cL rfl ?_) (aB (bL rfl rfl rfl (fun j hj=>cL rfl rfl) trivial)))⟩
   unfold lf jt
   rw[if_pos aa,if_pos aa]
  ·obtain⟨hj1,hj2⟩:=hj
   have e1:((i.toNat:Nat):Int)-(l:Int)+(j:Int)=((b+j:Nat):Int):=aa
   have e2:((b+j:Nat):Int)+(l:Int)-(r:Int)=((b+j+(l-r):Nat):Int):=aa
   have u1:∀{j':Nat},j'<=j->jt r j j'=SB r:=fun h=>by unfold jt;rw[if_pos h]
   simp only[ah.all,az,aZ,bk,e1,e2,aW,Nat.add_zero]
   refine⟨fun h4=>?_,fun h4=>⟨rfl,j,aa,[(0,0),(1,1),(2,2),(3,3)],rfl,rfl,rfl,aB (bL rfl rfl rfl (fun j hj=>cL rfl rfl) (aB (bL rfl rfl rfl (fun j hj=>cL rfl rfl) trivial)))⟩⟩
   have e3:((j:Int)-1).toNat=j-1:=aa
   have u2:=u1 (j':=j) aU
   have u3:=u1 (j':=j-1) aa
   simp only[e3,u2,u3]
   (repeat' with_reducible refine And.intro ?_ ?_)
   all_goals first|omega|skip
   exact⟨j-1,aa,by dsimp only;omega,[(0,0),(1,1),(2,2),(3,3)],rfl,by rw[show(j:Int)-1=((j-1:Nat):Int) by omega];rfl,rfl,aB (bL rfl rfl rfl (fun q hq=>Rc aa aa) (aB (bL rfl rfl rfl (fun j hj=>cL rfl rfl) trivial)))⟩
  ·subst hj
   show ax P cx mG.ntmps (part rY [1,1,1]) s' _
   refine ax.jA hle (ax.bA hT Aj hm 60 oy alm ag ?_)
   simp only[ah.all,az]
   refine⟨aa,fun s' hs'=>⟨j+1,⟨aa,he⟩,by dsimp only;omega,cP.le ⟨[(0,0),(1,1),(2,2)],rfl,rfl,rfl,bL rfl rfl rfl (fun q hq=>?_) (aB (bL rfl rfl rfl (fun j hj=>cL rfl rfl) trivial))⟩ hs' hk⟩⟩
   refine .inr ⟨rfl,bM (by rw[M6,hxS]) ?_⟩
   show jt j j q<=SB (j+1)
   unfold jt
   split<;>omega
 ·have hlp:l=p:=by
   unfold ig at he
   split at he
   ·omega
   ·omega
  subst hlp
  subst hr
  refine ax.j3 ((aI.adn hT Aj hm 60 Xz ag ?_).mono fun _ _ h=>.inl h)
  have h2:=sP (d:=r) hp6
  simp only[ah.all,az,aW,Nat.add_zero]
  refine⟨⟨aa,aa,aa,aa,aa⟩,aa,rfl,rfl,⟨bM ?_ (by show SB r+1+1<=536870912;omega),bQ he.symm,trivial⟩,⟨_,rfl,hrow _ _ _⟩⟩
  unfold mM
  rw[if_pos he,<-hb,hx,Rat.add_zero]
def oA (f:Nat->AV) (n s:Nat):Prop:=∀i,i<n->keys (f i)=[]/\bG (f i) (.rat (aR (f i)) s)
theorem NH {k:Nat->Rat} {n s s':Nat} (h:s<=s'):oA (fun i=>.rat (k i) s) n s':=fun _ _=>⟨rfl,fK h⟩
theorem oA.obj {f:Nat->AV} {n s:Nat} {w:Bool} (h:oA f n s) {m:Nat} (hm:n=m) (ρ:Nat->Option Nat):cV ρ ⟨true,w,3,n,f⟩ ⟨true,w,3,m,fun i=>.rat (aR (f i)) s⟩:=⟨rfl,rfl,rfl,hm.symm,fun i hi=>mL (h i hi).1 (h i hi).2⟩
def HY:Spec:=fun _ args pre=>match args,pre with
 |[.aq 3 n kf,.int .i64 p,.own b 3 0 m,.int .i64 i,.aq 3 l af],[(b',⟨true,true,3,mb,fb⟩)]=>match b'==b with
  |true=>some ⟨TC n (fun i=>aR (kf i)) p.toNat m (fun i=>aR (fb i)) i l (fun i=>aR (af i)),[(b,kV m fun i=>aR (fb i))],
   [mb=m,bP kf n sK,bP af l sK,oA fb m sK,1<=p,p<=6,n<2^40,m<2^40,-2^40<i,i<2^40]⟩
  |false=>none
 |_,_=>none
theorem al8:∀K args pre r,HY K args pre=some r->aE P Hg K args pre r:=by
 intro K args pre r h
 unfold HY at h
 split at h
 ·rename_i n kf p b m i l af b' mb fb
  split at h
  ·rename_i hc
   have hc:=eq_of_beq hc
   subst hc
   simp only[ay]at h
   subst h
   intro need
   obtain⟨rfl,n1,n2,n3,n4,n5,n6,n7,n8,n9⟩:=need
   refine ahE hT Th (args:=[.aq 3 n kf,.int .i64 p,.own b' 3 0 mb,.int .i64 i,.aq 3 l af]) (us:=[.rat (mM n (fun i=>aR (kf i)) p.toNat mb (fun i=>aR (fb i)) i l (fun i=>aR (af i))) sB,.int .i64 (ig n (fun i=>aR (kf i)) p.toNat mb l i)]) (args0:=[ls (fun i=>aR (kf i)) n,.int .i64 p,.own 0 3 0 mb,.int .i64 i,ls (fun i=>aR (af i)) l]) aX
    ⟨⟨rfl,mL rfl (K9 n1)⟩,⟨rfl,aN rfl⟩,⟨rfl,cD rfl rfl rfl⟩,⟨rfl,aN rfl⟩,⟨rfl,mL rfl (K9 n2)⟩,trivial⟩ (fun _ ρ=>n3.obj rfl ρ) (fun _ c hk=>?_) K ⟨rfl,n1,n2,n3,n4,n5,n6,n7,n8,n9⟩
   have:=VC (n:=n) (p:=p.toNat) (m:=mb) (l:=l) (k:=fun i=>aR (kf i)) (c:=fun i=>aR (fb i)) (a:=fun i=>aR (af i)) (i:=i) aa aa n6 n7 n8 n9 c hk
   rw[Int.toNat_of_nonneg aa]at this
   exact this
  ·simp at h
 ·simp at h
theorem aa0:aT P wX ES (aA ES):=aY Proofs.Tryz.func179 ag ag ag
theorem OQ:aT P xg rF (aA rF):=aY Proofs.Tryz.func180 ag ag ag
def mP (k:Nat->Rat) (n:Nat):Nat->Nat->Nat
 |0,i=>i
 |f+1,i=>if i+1<n/\k (i+1)<=k i then mP k n f (i+1)else i
def e9 (k:Nat->Rat) (n i:Nat):Nat:=mP k n (n-i) i
abbrev z8:List Nat:=[0,1,4]
abbrev KD (n i:Nat) (k:Nat->Rat):List AV:=[ls k n,.int .i64 i,.int .i64 0]
abbrev Af:Code:=aA ES
def ff (h:Pl):Nat->Rat
 |0=>h.n.x
 |1=>h.n.y
 |2=>h.n.z
 |_=>h.d
def oI (g:Nat->Rat):Nat->Pl
 |0=>⟨⟨0,0,0⟩,0⟩
 |1=>⟨⟨g 0,0,0⟩,0⟩
 |2=>⟨⟨g 0,g 1,0⟩,0⟩
 |3=>⟨⟨g 0,g 1,g 2⟩,0⟩
 |_=>⟨⟨g 0,g 1,g 2⟩,g 3⟩
def gE (c:Cu) (i:Int) (l:Nat) (g:Nat->Rat) (a:Nat):Rat:=mM c.n c.k c.p.toNat c.m (fun j=>ff (c.f j) a) i l g
def oc (c:Cu) (i:Int) (l:Nat) (g:Nat->Rat):Pl:=⟨⟨gE c i l g 0,gE c i l g 1,gE c i l g 2⟩,gE c i l g 3⟩
def oL (c:Cu) (a:Nat) (x:Nat->Rat) (j q:Nat):Rat:=if q<j\/c.m<=q then ff (c.f q) a else x q
theorem agj {c:Cu} {a:Nat} {x:Nat->Rat}:oL c a x c.m=fun q=>ff (c.f q) a:=by
 funext q;unfold oL;rw[if_pos aa]
def qH:bg:=nG::(Hg,HY)::gI
abbrev jd:List Nat:=[1,2,3,6,7,8,16]
abbrev lI (c:Cu) (i:Int) (l:Nat) (g:Nat->Rat) (a:Nat):List AV:=[.int .i64 i,ls g l,.ptr 0 0 3 0 [],.ptr 1 0 12 0 [],.ptr 2 0 12 0 [],.own 3 3 0 c.m,.int .i64 a]
abbrev w7:List Nat:=[1,2,3,6,7,8,16,9,20,21,22]
abbrev Fv (c:Cu) (i:Int) (l:Nat) (g:Nat->Rat) (a j:Nat):List AV:=[.int .i64 i,ls g l,.ptr 0 0 3 0 [],.ptr 1 0 12 0 [],.ptr 2 0 12 0 [],.own 3 3 0 c.m,.int .i64 a,.int .i64 a,qf c.f c.m sK,.int .i64 c.m,.int .i64 j]
abbrev jx (c:Cu) (x:Nat->Rat) (h:Pl):aF:=[(3,kV c.m x),(2,eB h sB),(1,eB ⟨⟨0,0,0⟩,0⟩ 1),(0,p7 c sK)]
abbrev Cg:Code:=aA rF
abbrev oF:Code:=part Cg [1,1,1,0,1,0,0]
abbrev oS:Code:=part oF [1,1,0,0]
theorem TF {n i:Nat} {k:Nat->Rat}:aH T (nG::gI) [] 60 z8 (before Af [1,0]) ⟨aQ 0 [ls k n,.int .i64 i],[],0⟩=
  some (leaf normal ([aq 3 n fun i=>rat (k i) 4096,int i64 (↑i:Int),int i64 0],[])):=ag
theorem afn {n i:Nat} {k:Nat->Rat}:aH T (nG::gI) [10,22] 60 z8 [part Af [1,0,0,0]] ⟨aC z8 (KD n i k),[],0⟩=
  let c9:Prop:=sK<2^42;let c8:Int:=(↑i:Int);let c3:AV:=aq 3 n fun i=>rat (k i) 4096;let c4:ah (List AV×aF):=leaf (exit 0) ([c3,int i64 c8,int i64 0],[]);let c1:Int:=c8+(1:Int);let c7:Int:=dM (k c8.toNat) (k c1.toNat);let c6:Bool:=decide (c1<(↑n:Int));let c2:Prop:=-(2:Int)^63<=c1/\c1<(2:Int)^63;let c5:ah (List AV×aF):=aj [c2] (leaf normal ([c3,int i64 c1,int i64 0],[]));some (fork c6 (aj [c2,c6=true,(0:Int)<=c8/\c8.toNat<n,c2,(0:Int)<=c1/\c1.toNat<n,c9,c9] (fork (bif true then decide (c7>=(0:Int))else false) c5 c4)) (aj [c2,c6=false] (fork false c5 c4))):=ag
theorem Zf {n i:Nat} {k:Nat->Rat}:cw T (nG::gI) [] 60 ES [part Af [1,1]] ⟨aC z8 (KD n i k),[],0⟩=
  some (leaf ret [int i64 (↑i:Int)]):=ag
theorem V9 {c:Cu} {i:Int} {l:Nat} {g:Nat->Rat}:aH T qH [] 60 jd (before Cg [1,1,1,0,1]) ⟨aQ 0 [dj c sK sK,.int .i64 i,ls g l],[],0⟩=
  let c4:Nat:=(aV (dj c sK sK)).size;let c3:Int:=(↑c.m:Int);let c1:AV:=rat 0 1;let c2:ak:=ak.mk false true 12 1 fun x=>agg [c1,c1,c1,c1];some (aj [(0:Nat)<1,(0:Int)<=c3/\c3<=c3/\c3<=(2:Int)^47/\c3*(↑(56:Nat):Int)<=(2:Int)^47] (leaf normal ([int i64 i,aq 3 l fun i=>rat (g i) 4096,ptr 0 0 c4 0 [],ptr 4096 0 12 0 [],ptr 8192 0 12 0 [],own 24576 3 0 c3.toNat,int i64 0],[(24576,ak.mk true true 3 c3.toNat fun x=>c1),((8192:Nat),c2),((4096:Nat),c2),(0,ak.mk false true c4 1 fun x=>agg [int i64 c.p,aq 3 c.n fun i=>rat (c.k i) 4096,aq 12 c.m fun i=>agg [rat (c.f i).n.x 4096,rat (c.f i).n.y 4096,rat (c.f i).n.z 4096,rat (c.f i).d 4096]])]))):=ag
theorem ai2 {c:Cu} {i:Int} {l a:Nat} {g x:Nat->Rat} {h:Pl}:aH T qH [17] 60 jd (before oF [1,1,0]) ⟨aC jd (lI c i l g a),jx c x h,4⟩=
  let c2:AV:=rat 0 1;let c1:List AV×aF:=([int i64 i,aq 3 l fun i=>rat (g i) 4096,ptr 0 0 3 0 [],ptr 1 0 12 0 [],ptr 2 0 12 0 [],own 3 3 0 c.m,int i64 (↑a:Int)],[(3,ak.mk true true 3 c.m fun i=>rat (x i) 4096),(2,ak.mk false true 12 1 fun x=>agg [rat h.n.x 536870912,rat h.n.y 536870912,rat h.n.z 536870912,rat h.d 536870912]),(1,ak.mk false true 12 1 fun x=>agg [c2,c2,c2,c2]),((0:Nat),aJ fun x=>agg [int i64 c.p,aq 3 c.n fun i=>rat (c.k i) 4096,aq 12 c.m fun i=>agg [rat (c.f i).n.x 4096,rat (c.f i).n.y 4096,rat (c.f i).n.z 4096,rat (c.f i).d 4096]])]);some (fork (decide ((↑a:Int)<(4:Int))) (leaf normal c1) (leaf (exit 0) c1)):=ag
theorem aaE {c:Cu} {i:Int} {l a:Nat} {g x:Nat->Rat} {h:Pl}:aH T qH [] 60 w7 (before oS [1,0,1]) ⟨aC jd (lI c i l g a),jx c x h,4⟩=
  let c2:AV:=rat 0 1;let c1:AV:=aq 12 c.m fun i=>agg [rat (c.f i).n.x 4096,rat (c.f i).n.y 4096,rat (c.f i).n.z 4096,rat (c.f i).d 4096];some (aj [(0:Nat)<1] (leaf normal ([int i64 i,aq 3 l fun i=>rat (g i) 4096,ptr 0 0 3 0 [],ptr 1 0 12 0 [],ptr 2 0 12 0 [],own 3 3 0 c.m,int i64 (↑a:Int),int i64 (↑a:Int),c1,int i64 (↑c.m:Int),int i64 0],[(3,ak.mk true true 3 c.m fun i=>rat (x i) 4096),(2,ak.mk false true 12 1 fun x=>agg [rat h.n.x 536870912,rat h.n.y 536870912,rat h.n.z 536870912,rat h.d 536870912]),(1,ak.mk false true 12 1 fun x=>agg [c2,c2,c2,c2]),((0:Nat),aJ fun x=>agg [int i64 c.p,aq 3 c.n fun i=>rat (c.k i) 4096,c1])]))):=ag
theorem akK {c:Cu} {i:Int} {l a:Nat} {g x:Nat->Rat} {h:Pl}:aH T qH [] 60 jd [part oF [1,1,1]] ⟨aC jd (lI c i l g a),jx c x h,4⟩=
  let c2:Int:=(↑a:Int)+(1:Int);let c1:AV:=rat 0 1;some (aj [-(2:Int)^63<=c2/\c2<(2:Int)^63] (leaf normal ([int i64 i,aq 3 l fun i=>rat (g i) 4096,ptr 0 0 3 0 [],ptr 1 0 12 0 [],ptr 2 0 12 0 [],own 3 3 0 c.m,int i64 c2],[(3,ak.mk true true 3 c.m fun i=>rat (x i) 4096),(2,ak.mk false true 12 1 fun x=>agg [rat h.n.x 536870912,rat h.n.y 536870912,rat h.n.z 536870912,rat h.d 536870912]),(1,ak.mk false true 12 1 fun x=>agg [c1,c1,c1,c1]),((0:Nat),aJ fun x=>agg [int i64 c.p,aq 3 c.n fun i=>rat (c.k i) 4096,aq 12 c.m fun i=>agg [rat (c.f i).n.x 4096,rat (c.f i).n.y 4096,rat (c.f i).n.z 4096,rat (c.f i).d 4096]])]))):=ag
theorem ahl {c:Cu} {i:Int} {l a:Nat} {g x:Nat->Rat} {h:Pl}:cw T qH [] 60 rF [part Cg [1,1,1,1]] ⟨aC jd (lI c i l g a),jx c x h,4⟩=
  let c1:Prop:=0<1;some (aj [c1,c1] (aj [c1] (leaf ret [agg [rat h.n.x 536870912,rat h.n.y 536870912,rat h.n.z 536870912,rat h.d 536870912]]))):=ag
theorem Jt {k:Nat->Rat} {n i:Nat} (h:i+1<n) (h2:k (i+1)<=k i):e9 k n i=e9 k n (i+1):=by
 unfold e9;rw[show n-i=(n-(i+1))+1 by omega,mP,if_pos ⟨h,h2⟩]
theorem CH {k:Nat->Rat} {n i:Nat} (h:¬(i+1<n/\k (i+1)<=k i)):e9 k n i=i:=by
 unfold e9
 cases n-i with
 |zero=>rfl
 |succ f=>rw[mP,if_neg h]
theorem ak8 {n i:Nat} {k:Nat->Rat} (hi:i<=n) (hn:n<2^40) (K:Nat):aE P wX K [ls k n,.int .i64 i] [] (aK (.int .i64 (e9 k n i)) []):=by
 refine fI (r:=aK (.int .i64 (e9 k n i)) []) hT (cZ iG) hm aa0 rfl aX rfl [1,0] (i:=0) (y:=part Af [1,0,0,0]) (z:=part Af [1,1]) ag ag ag (f1:=[]) (f2:=[10,22]) (f3:=[]) 60 z8 0
  (fun j:Nat=>KD n j k) (fun _=>[]) (fun j=>j<=n/\e9 k n j=e9 k n i) (fun j=>j=e9 k n i) (fun j=>n-j) (fun _=>⟨⟨_,TF,?_⟩,fun j hj=>⟨_,afn,?_⟩,fun j hj=>⟨_,Zf,?_⟩⟩) K []
 ·simp only[ah.all,az]
  exact⟨i,⟨hi,rfl⟩,[],rfl,rfl,rfl,trivial⟩
 ·have e1:((j:Int)+1).toNat=j+1:=aa
  simp only[ah.all,az,aZ,bk,aW,cond_true,e1,xT]
  refine⟨fun h1=>⟨⟨aa,aa,aa,aa,aa,by decide,by decide⟩,fun h2=>⟨aa,j+1,⟨aa,(Jt aa h2).symm.trans hj.2⟩,by dsimp only;omega,[],rfl,rfl,rfl,trivial⟩,fun h2=>⟨rfl,j,?_,[],rfl,rfl,rfl,trivial⟩⟩,fun h1=>⟨⟨aa,aa⟩,fun h=>absurd h (by decide),fun _=>⟨rfl,j,?_,[],rfl,rfl,rfl,trivial⟩⟩⟩
  ·exact(CH fun h=>h2 h.2).symm.trans hj.2
  ·exact(CH fun h=>aa).symm.trans hj.2
 ·subst hj
  simp only[ah.all,az]
  exact .refl _
def Lg:Spec:=cN (kC (kL sK) (kC kI kN)) (fun a=>.int .i64 (e9 a.1.2 a.1.1 a.2.1.toNat)) fun a=>[0<=a.2.1,a.2.1<=a.1.1,a.1.1<2^40]
theorem Tt:∀K args pre r,Lg K args pre=some r->aE P wX K args pre r:=cy fun⟨⟨n,k⟩,i,_⟩ K hn=>by
 obtain⟨h1,h2,h3⟩:=hn
 have:=ak8 (n:=n) (i:=i.toNat) (k:=k) (by dsimp only at*;omega) h3 K
 rw[Int.toNat_of_nonneg h1]at this
 exact this
theorem uB:bz P qH:=cZ (aL al8 iG)
def yK (c:Cu):Nat->Nat->Rat
 |0=>fun _=>0
 |a+1=>fun q=>ff (c.f q) a
theorem VY {rl:List (Nat×Nat)} {c:Cu} {a:Nat} {x:Nat->Rat} {q:Nat} (hq:q<c.m):eG rl (.rat (x q) sK) (.rat (oL c a x 0 q) sK):=cL rfl (by unfold oL;rw[if_neg aa])
theorem alF {rl:List (Nat×Nat)} {c:Cu} {a j:Nat} {x:Nat->Rat} {q:Nat} {v:Rat} (hq:q<c.m) (hv:v=ff (c.f j) a):eG rl (.rat (bif q==j then v else oL c a x j q) (bif q==j then sK else sK)) (.rat (oL c a x (j+1) q) sK):=by
 refine cL rfl ?_
 rw[Bool.cond_self]
 congr 1
 by_cases h:q=j
 ·subst h
  rw[beq_self_eq_true,cond_true,hv];unfold oL;rw[if_pos aa]
 ·rw[beq_eq_false_iff_ne.2 h,cond_false];unfold oL
  by_cases h2:q<j
  ·rw[if_pos (.inl h2),if_pos (.inl aa)]
  ·rw[if_neg aa,if_neg aa]
theorem U5 {x:Nat->Rat} {m:Nat}:oA (fun i=>.rat (x i) sK) m sK:=NH aU
theorem four {a:Nat} (ha:a<4):a=0\/a=1\/a=2\/a=3:=aa
theorem ahA {c:Cu} {i:Int} {l a j:Nat} {g x:Nat->Rat} {h:Pl} (ha:a<4):aH T qH [23] 60 w7 [part oS [1,0,1,0,0]] ⟨aC w7 (Fv c i l g a j),jx c x h,4⟩=
  some (fork (decide ((j:Int)<c.m)) (aj [(0:Int)<=j/\(j:Int).toNat<c.m,0<1] (aj [(0:Int)<=a/\(a:Int)<(4:Nat),0<1,(0:Int)<=j/\(j:Int).toNat<c.m,(j:Int).toNat+0<c.m] (aj [-(2:Int)^63<=(j:Int)+1/\(j:Int)+1<(2:Int)^63]
   (leaf normal ([.int .i64 i,ls g l,.ptr 0 0 3 0 [],.ptr 1 0 12 0 [],.ptr 2 0 12 0 [],.own 3 3 0 c.m,.int .i64 a,.int .i64 a,qf c.f c.m sK,.int .i64 c.m,.int .i64 ((j:Int)+1)],(3,⟨true,true,3,c.m,fun q=>.rat (bif q==(j:Int).toNat+0 then ff (c.f (j:Int).toNat) a else x q) (bif q==(j:Int).toNat+0 then sK else sK)⟩)::[(2,eB h sB),(1,eB ⟨⟨0,0,0⟩,0⟩ 1),(0,p7 c sK)]))))) (leaf (exit 2) (Fv c i l g a j,jx c x h))):=by
 rcases four ha with rfl|rfl|rfl|rfl<;>kernel_rfl
theorem abC {c:Cu} {i:Int} {l a j:Nat} {g x:Nat->Rat} {h:Pl} (ha:a<4):aH T qH [] 60 jd [part oS [1,1]] ⟨aC w7 (Fv c i l g a j),jx c x h,4⟩=
  some (aj [0<1,0<1,c.m=c.m,bP (fun i=>.rat (c.k i) sK) c.n sK,bP (fun i=>.rat (g i) sK) l sK,oA (fun i=>.rat (x i) sK) c.m sK,(1:Int)<=c.p,c.p<=(6:Int),c.n<2^40,c.m<2^40,-(2:Int)^40<i,i<(2:Int)^40,(0:Int)<=a/\(a:Int)<(4:Nat),0<1]
   (leaf normal (lI c i l g a,[(3,kV c.m x),(2,⟨false,true,12,1,fun j=>if(j==0)=true then .agg ((bu h sB).kids.set a (.rat (mM c.n c.k c.p.toNat c.m x i l g) sB))else bu h sB⟩),(1,eB ⟨⟨0,0,0⟩,0⟩ 1),(0,p7 c sK)]))):=by
 rcases four ha with rfl|rfl|rfl|rfl<;>kernel_rfl
theorem agA {rl:List (Nat×Nat)} {G:Nat->Rat} {a:Nat} (ha:a<4):eG rl (.agg ((bu (oI G a) sB).kids.set a (.rat (G a) sB))) (bu (oI G (a+1)) sB):=by
 rcases four ha with rfl|rfl|rfl|rfl<;>exact cL rfl rfl
theorem aev {c:Cu} {i:Int} {l a:Nat} {g x:Nat->Rat} {cx:Ctx} {Q:au->aM->Prop} (ha:a<4) (hk:Kept [] cx) (hp1:1<=c.p) (hp6:c.p<=6) (hn:c.n<2^40) (hm2:c.m<2^40) (hi:-2^40<i) (hi2:i<2^40)
  (hQ:∀s',(∃ρ,Le cx ρ s' ⟨aC jd (lI c i l g a),jx c (yK c (a+1)) (oI (gE c i l g) (a+1)),4⟩)->ax P cx rF.ntmps (part oF [1,1,1]) s' Q):
  ax P cx rF.ntmps oS ⟨aC jd (lI c i l g a),jx c x (oI (gE c i l g) a),4⟩ (inBlock 1 (dH (fun s'=>ax P cx rF.ntmps (part oF [1,1,1]) s' Q) Q)):=by
 refine ax.oE hT uB hm (x:=oS) [1,0,1] (i:=2) (y:=part oS [1,0,1,0,0]) ag ag ag hk (f1:=[]) (f2:=[23]) 60 w7 4 (fun j:Nat=>Fv c i l g a j) (fun j=>jx c (oL c a x j) (oI (gE c i l g) a)) (fun j=>j<=c.m) (fun j=>j=c.m) (fun j=>c.m-j) (fun _=>False) ⟨_,aaE,?_⟩ (fun j hj=>⟨_,ahA ha,?_⟩) (fun j s' hj hle=>?_) (fun _ _ h=>h.elim)
 ·simp only[ah.all,az]
  exact⟨aa,0,Nat.zero_le _,[(0,0),(1,1),(2,2),(3,3)],rfl,rfl,rfl,bL rfl rfl rfl (fun q hq=>VY hq) (aB (aB (aB trivial)))⟩
 ·simp only[ah.all,az,aZ,bk,aW,Nat.add_zero]
  exact⟨fun h1=>⟨⟨aa,aa⟩,⟨aa,aa,aa,aa⟩,aa,j+1,aa,by dsimp only;omega,[(0,0),(1,1),(2,2),(3,3)],rfl,rfl,rfl,bL rfl rfl rfl (fun q hq=>alF hq rfl) (aB (aB (aB trivial)))⟩,
   fun h1=>⟨rfl,j,aa,[(0,0),(1,1),(2,2),(3,3)],rfl,rfl,rfl,bL rfl rfl rfl (fun q hq=>cL rfl rfl) (aB (aB (aB trivial)))⟩⟩
 ·subst hj
  simp only[agj]at hle
  rw[show behind oS [1,0,1]=[part oS [1,1]]from by kernel_rfl]
  refine aI.weak rfl hle (aI.bA hT uB hm 60 jd (abC ha) ag ?_)
  simp only[ah.all,az]
  refine⟨⟨aa,aa,trivial,bY aU,bY aU,U5,hp1,hp6,hn,hm2,hi,hi2,aa,aa⟩,fun s'' hs''=>hQ s'' (cP.le ⟨[(0,0),(1,1),(2,2),(3,3)],rfl,rfl,rfl,bL rfl rfl rfl (fun q hq=>cL rfl rfl) (bD rfl rfl (agA ha) (aB (aB trivial)))⟩ hs'' hk)⟩
theorem akq {c:Cu} {i:Int} {l:Nat} {g:Nat->Rat} (hp1:1<=c.p) (hp6:c.p<=6) (hn:c.n<2^40) (hm2:c.m<2^40) (hi:-2^40<i) (hi2:i<2^40) (K:Nat):aE P xg K [dj c sK sK,.int .i64 i,ls g l] [] (aK (bu (oc c i l g) sB) []):=by
 refine gr (r:=aK (bu (oc c i l g) sB) []) hT OQ rfl aX rfl (fun _ cx h00=>?_) K []
 have hk:=m7 h00
 refine ax.tY hT uB hm [1,1,1,0,1] (i:=0) (y:=oF) (z:=part Cg [1,1,1,1]) ag ag ag OQ.dst hk (f1:=[]) 60 jd 4 (fun a:Nat=>lI c i l g a) (fun a=>jx c (yK c a) (oI (gE c i l g) a)) (fun a=>a<=4) (fun a=>a=4) (fun a=>4-a) (fun _=>False) ⟨_,V9,?_⟩ (fun a ha=>?_) (fun a ha=>?_) (fun _ _ h=>h.elim)
 ·simp only[ah.all,az,aW]
  exact⟨⟨aa,aa⟩,0,aa,[(0,0),(1,4096),(2,8192),(3,24576)],rfl,rfl,rfl,bL rfl rfl rfl (fun q hq=>.inr ⟨rfl,bM rfl (by decide)⟩) (bD rfl rfl (.inr ⟨rfl,cC (show eH [.rat _ _,.rat _ _,.rat _ _,.rat _ _] [.rat _ _,.rat _ _,.rat _ _,.rat _ _]from⟨bM rfl (by decide),bM rfl (by decide),bM rfl (by decide),bM rfl (by decide),trivial⟩)⟩) (aB (aB trivial)))⟩
 ·have re:∀{x:Nat->Rat} {h:Pl},cP [] (lI c i l g a,jx c x h) (lI c i l g a) (jx c x h) 4:=
   fun {x h}=>⟨[(0,0),(1,1),(2,2),(3,3)],rfl,rfl,rfl,bL rfl rfl rfl (fun q hq=>cL rfl rfl) (aB (aB (aB trivial)))⟩
  refine ax.nP hT uB hm (y:=oF) (x1:=oS) (zb:=part oF [1,1,1]) [1,1,0] (j:=1) ag ag ag ag hk (f1:=[17]) 60 jd 4 (fun _:Unit=>lI c i l g a) (fun _=>jx c (yK c a) (oI (gE c i l g) a)) (fun _=>a<4) ⟨_,ai2,?_⟩ (fun _ ha'=>?_)
  ·simp only[ah.all,az,aZ,bk]
   exact⟨fun h1=>⟨(),aa,re⟩,fun h1 s' hs'=>⟨rfl,a,aa,re.le hs' hk⟩⟩
  have nx:∀s',(∃ρ,Le cx ρ s' ⟨aC jd (lI c i l g a),jx c (yK c (a+1)) (oI (gE c i l g) (a+1)),4⟩)->ax P cx rF.ntmps (part oF [1,1,1]) s' (xo cx jd (fun a:Nat=>lI c i l g a) (fun a=>jx c (yK c a) (oI (gE c i l g) a)) 4 (fun a=>a<=4) (fun a=>a=4) (fun a=>4-a) 0 (fun s'=>∃v,False/\bt jd s'=some v) a):=fun s' hle=>by
   refine ax.jA hle (ax.bA hT uB hm 60 jd akK ag ?_)
   simp only[ah.all,az]
   exact⟨aa,fun s'' hs''=>⟨a+1,aa,by dsimp only;omega,cP.le ⟨[(0,0),(1,1),(2,2),(3,3)],rfl,rfl,rfl,bL rfl rfl rfl (fun q hq=>cL rfl rfl) (aB (aB (aB trivial)))⟩ hs'' hk⟩⟩
  exact aev ha' hk hp1 hp6 hn hm2 hi hi2 nx
 ·subst ha
  refine ax.j3 ((aI.fin hT uB hm 60 ahl ag ?_).mono fun _ _ h=>.inl h)
  simp only[ah.all,az]
  exact⟨⟨aa,aa⟩,aa,.refl _⟩
def HK:Spec:=cN (kC (rE sK sK) (kC kI (kC (kL sK) kN))) (fun a=>bu (oc a.1 a.2.1 a.2.2.1.1 a.2.2.1.2) sB) fun a=>[1<=a.1.p,a.1.p<=6,a.1.n<2^40,a.1.m<2^40,-2^40<a.2.1,a.2.1<2^40]
theorem Ms:∀K args pre r,HK K args pre=some r->aE P xg K args pre r:=cy fun⟨c,i,⟨l,g⟩,_⟩ K hn=>akq hn.1 hn.2.1 hn.2.2.1 hn.2.2.2.1 hn.2.2.2.2.1 hn.2.2.2.2.2 K
theorem agQ:aT P FZ E7 (aA E7):=aY Proofs.Tryz.func80 ag ag ag
theorem WY:aT P FA nQ (aA nQ):=aY Proofs.Tryz.func61 ag ag ag
theorem Vj:aT P F5 lR (aA lR):=aY Proofs.Tryz.func145 ag ag ag
abbrev wZ:List Nat:=[0,1,4,5]
abbrev KO (n m:Nat) (f g:Nat->Rat) (i:Nat):List AV:=[bq f n sU,bq g m sU,.bool false,.int .i64 i]
abbrev xR:Code:=aA E7
theorem aeW {n m:Nat} {f g:Nat->Rat}:aH T jW [10] 60 wZ (before xR [1,1,0,1]) ⟨aQ 0 [bq f n sU,bq g m sU],[],0⟩=
  let c2:AV:=aq 3 m fun i=>rat (g i) 4294967296;let c1:AV:=aq 3 n fun i=>rat (f i) 4294967296;some (fork ((↑n:Int)!=(↑m:Int)) (leaf ret ([c1,c2,AV.bool false,tuple []],[])) (leaf normal ([c1,c2,AV.bool false,int i64 0],[]))):=ag
theorem ahG {n m i:Nat} {f g:Nat->Rat}:aH T jW [14,26] 60 wZ [part xR [1,1,0,1,0,0]] ⟨aC wZ (KO n m f g i),[],0⟩=
  let c4:AV:=aq 3 m fun i=>rat (g i) 4294967296;let c3:AV:=aq 3 n fun i=>rat (f i) 4294967296;let c2:Int:=(↑i:Int);let c5:Int:=c2+(1:Int);let c1:List AV×aF:=([c3,c4,AV.bool false,int i64 c2],[]);some (fork (decide (c2<(↑n:Int))) (aj [(0:Int)<=c2/\c2.toNat<n,(0:Int)<=c2/\c2.toNat<m] (fork (!decide (f c2.toNat=g c2.toNat)) (leaf ret c1) (aj [-(2:Int)^63<=c5/\c5<(2:Int)^63] (leaf normal ([c3,c4,AV.bool false,int i64 c5],[]))))) (leaf (exit 0) c1)):=ag
theorem adO {n m i:Nat} {f g:Nat->Rat}:cw T jW [] 60 E7 [part xR [1,1,1]] ⟨aC wZ (KO n m f g i),[],0⟩=
  some (leaf ret [AV.bool true]):=ag
def AK (n:Nat) (f:Nat->Rat) (m:Nat) (g:Nat->Rat):Bool:=decide (n=m/\∀i,i<n->f i=g i)
theorem akL {n m:Nat} {f g:Nat->Rat} (hn:n<2^40) (hm2:m<2^40) (K:Nat):aE P FZ K [bq f n sU,bq g m sU] [] (aK (.bool (AK n f m g)) []):=by
 refine fI (r:=aK (.bool (AK n f m g)) []) hT Ex hm agQ rfl aX rfl [1,1,0,1] (i:=0) (y:=part xR [1,1,0,1,0,0]) (z:=part xR [1,1,1]) ag ag ag (f1:=[10]) (f2:=[14,26]) (f3:=[]) 60 wZ 0
  (fun i:Nat=>KO n m f g i) (fun _=>[]) (fun i=>i<=n/\n=m/\∀j,j<i->f j=g j) (fun i=>i=n/\n=m/\∀j,j<i->f j=g j) (fun i=>n-i) (fun _=>⟨⟨_,aeW,?_⟩,fun i ⟨h1,h2,h3⟩=>⟨_,ahG,?_⟩,fun i ⟨h1,h2,h3⟩=>⟨_,adO,?_⟩⟩) K []
 ·simp only[ah.all,az,bne_iff_ne,ne_eq,bne_eq_false_iff_eq]
  exact⟨fun h=>⟨[.bool false],ag,fB (decide_eq_false (fun hh=>h aa)).symm⟩,fun h=>⟨0,⟨aa,aa,fun j hj=>aa⟩,.vals rfl⟩⟩
 ·simp only[ah.all,az,aZ,bk,Bool.not_eq_true',Bool.not_eq_false',aW]
  (repeat' with_reducible first|refine And.intro ?_ ?_|intro _)
  all_goals first|omega|skip
  ·rename_i a b
   exact⟨[.bool false],ag,fB (decide_eq_false (fun hh=>b (hh.2 i aa))).symm⟩
  ·rename_i a b
   refine⟨i+1,⟨aa,h2,fun j hj=>?_⟩,by dsimp only;omega,.vals rfl⟩
   by_cases hj2:j=i
   ·subst hj2;exact b
   ·exact h3 j aa
  ·exact⟨rfl,i,⟨aa,h2,h3⟩,.vals rfl⟩
 ·subst h1
  exact fB (decide_eq_true ⟨h2,h3⟩).symm
def SO:Spec:=cN (kC (kL sU) (kC (kL sU) kN)) (fun a=>.bool (AK a.1.1 a.1.2 a.2.1.1 a.2.1.2)) fun a=>[a.1.1<2^40,a.2.1.1<2^40]
theorem T1:∀K args pre r,SO K args pre=some r->aE P FZ K args pre r:=cy fun _ K hn=>akL hn.1 hn.2 K
abbrev nB (m:Nat) (k:Nat->Rat) (s:Nat):ak:=⟨true,true,3,m,fun i=>.rat (k i) s⟩
end Go.Am.B
