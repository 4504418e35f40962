/- gl.Distinct, ref08.Distinct, slices.IsSortedFunc of numbers. -/
import Derived.Test.YtppeigelbecpbaaGreatY37
import Derived.Test.YtppeigelbecpbaaGreatZ2
set_option linter.unusedVariables false
namespace Go.Am.B
open Go Go.Am.N AV aa ak IntKind
theorem Yr:aP P zQ yJ (au yJ):=aQ VF (by kernel_rfl) (by kernel_rfl) (by kernel_rfl)
noncomputable abbrev ze:Code:=au yJ
abbrev vW:List Nat:=[4,0,1,5]
abbrev Hs (n:Nat) (k:Nat→Rat) (i:Nat):List AV:=[.bool false,ls k n,.func jD [],.int .i64 ((i:Int)-1)]
noncomputable def I8:aS:=[(pM,PR),(Cw,FV)]
theorem afz {n:Nat} {k:Nat→Rat}:aJ T gj [] 60 vW (before ze [1,0,1]) ⟨aN 0 [ls k n,.func jD []],[],0⟩=
  let c1:Int:=(↑n:Int)-(1:Int);some (ag [-(2:Int)^63≤c1∧c1<(2:Int)^63] (leaf normal ([AV.bool false,aj 3 n fun i↦rat (k i) 4096,func jD [],int i64 c1],[]))):=by kernel_rfl
theorem TH {n i:Nat} {k:Nat→Rat}:aJ T gj [10,24] 60 vW [part ze [1,0,1,0,0]] ⟨aB vW (Hs n k i),[],1⟩=
  let c5:AV:=aj 3 n fun i↦rat (k i) 4096;let c4:Int:=(2:Int)^63;let c1:Int:=(↑i:Int)-(1:Int);let c3:List AV:=[AV.bool false,c5,func jD [],int i64 c1];let c2:Int:=c1-(1:Int);let c6:Int:=dc (k c1.toNat) (k c2.toNat);some (fork (decide (c1>(0:Int))) (ag [(0:Int)≤c1∧c1.toNat<n,-c4≤c2∧c2<c4,(0:Int)≤c2∧c2.toNat<n] (fork (decide (c6<(0:Int))) (leaf ret (c3,[])) (ag [-c4≤c2∧c2<c4] (leaf normal ([AV.bool false,c5,func jD [],int i64 c2],[]))))) (leaf (exit 0) (c3,[]))):=by kernel_rfl
theorem ahD {n i:Nat} {k:Nat→Rat}:bY T gj [] 60 yJ [part ze [1,1]] ⟨aB vW (Hs n k i),[],1⟩=
  some (leaf ret [AV.bool true]):=by kernel_rfl
theorem YI {n:Nat} {k:Nat→Rat}:bC T I8 [] 60 Ab (au Ab) ⟨aN 0 [bq k n sJ],[],0⟩=
  let c1:Prop:=n<2^40;some (ag [bK (fun i↦rat (k i) sJ) n sJ,c1,n=n,FY (fun i↦rat (aO (rat (k i) sJ)) sK) n sK,c1] (leaf ret [aj 3 (bZ (fun i↦aO (rat (aO (rat (k i) sJ)) sK)) n) fun i↦rat (kq (fun i↦aO (rat (aO (rat (k i) sJ)) sK)) n (i+0)) 4096])):=by kernel_rfl
def kF (g:FuncId):Kind Unit:=⟨fun v=>match v with
 |.func f []=>match Nat.beq f g with
  |true=>some ((),[])
  |false=>none
 |_=>none,fun _=>.func g [],fun {v a q} h _=>by
  split at h
  ·split at h
   ·rename_i hb
    rw[Nat.eq_of_beq_eq_true hb];exact .refl _
   ·simp at h
  ·simp at h⟩
noncomputable def oA (p:Prop):Bool:=@decide p (Classical.propDecidable p)
theorem Wy {p:Prop} (h:p):oA p=true:=@decide_eq_true p (Classical.propDecidable p) h
theorem Wz {p:Prop} (h:¬p):oA p=false:=@decide_eq_false p (Classical.propDecidable p) h
theorem RH {p:Prop} (h:oA p=true):p:=@of_decide_eq_true p (Classical.propDecidable p) h
theorem agn {p:Prop} (h:oA p=false):¬p:=@of_decide_eq_false p (Classical.propDecidable p) h
theorem TU {n:Nat} {k:Nat→Rat} (hn:n<2^40) (K:Nat):aA P zQ K [ls k n,.func jD []] [] (aG (.bool (oA (qV n k))) []):=by
 refine fD (r:=aG (.bool (oA (qV n k))) []) hT jZ hm Yr rfl (of_decide_eq_true (by kernel_rfl)) rfl [1,0,1] (i:=0) (y:=part ze [1,0,1,0,0]) (z:=part ze [1,1]) (by kernel_rfl) (by kernel_rfl) (by kernel_rfl) (f1:=[]) (f2:=[10,24]) (f3:=[]) 60 vW 1
  (fun i:Nat=>Hs n k i) (fun _=>[]) (fun i=>i≤n∧∀j,i≤j+1→j+1<n→k j≤k (j+1)) (fun _=>qV n k) (fun i=>i) (fun _=>⟨⟨_,afz,?_⟩,fun i ⟨h1,h2⟩=>⟨_,TH,?_⟩,fun i hi=>⟨_,ahD,?_⟩⟩) K []
 ·simp only[aa.all,ax]
  exact⟨by omega,n,⟨Nat.le_refl _,fun j h1 h2=>by omega⟩,dN.vals rfl⟩
 ·simp only[aa.all,ax,decide_eq_true_eq,decide_eq_false_iff_not,lG]
  refine⟨fun h=>⟨by omega,fun hlt=>⟨[.bool false],by kernel_rfl,eP ?_⟩,fun hle=>⟨by omega,i-1,⟨by omega,fun j g1 g2=>?_⟩,by dsimp only;omega,[],rfl,?_,rfl,trivial⟩⟩,fun h=>⟨rfl,i,fun j hj=>h2 j (by omega) hj,[],rfl,rfl,rfl,trivial⟩⟩
  ·refine(Wz fun hs=>?_).symm
   have:=hs (i-2) (by omega)
   rw[show((i:Int)-1).toNat=i-2+1 by omega,show((i:Int)-1-1).toNat=i-2 by omega]at hlt
   grind
  ·by_cases he:j+2=i
   ·rw[show((i:Int)-1).toNat=j+1 by omega,show((i:Int)-1-1).toNat=j by omega]at hle
    grind
   ·exact h2 j (by omega) g2
  ·show _=[_,_,_,AV.int .i64 (((i-1:Nat):Int)-1)]
   rw[show((i-1:Nat):Int)-1=(i:Int)-1-1 by omega];rfl
 ·simp only[aa.all,ax]
  exact eP (Wy hi).symm
noncomputable def Lx:Spec:=cD (kC (kL sK) (kC (kF jD) kN)) (fun a=>.bool (oA (qV a.1.1 a.1.2))) fun a=>[a.1.1<2^40]
theorem aeL:∀K args pre r,Lx K args pre=some r→aA P zQ K args pre r:=cj fun⟨⟨n,k⟩,_,_⟩ K hn=>TU hn K
noncomputable def Np:Spec:=cD (kC (kL sJ) kN) (fun a=>ls (dw a.1.2 a.1.1) (bZ a.1.2 a.1.1)) fun a=>[a.1.1<2^40]
theorem aaW:aW P I8:=aH Tx (aH ahd bp)
theorem aiN:∀K args pre r,Np K args pre=some r→aA P DX K args pre r:=cj fun⟨⟨n,k⟩,_⟩ K hn=>by
 have hn:n<2^40:=hn
 refine bJ (r:=aG (ls (dw k n) (bZ k n)) []) hT aaW hm Yt rfl (of_decide_eq_true (by kernel_rfl)) rfl 60 YI (fun _=>?_) K []
 simp only[aa.all,ax]
 exact⟨⟨ct (Nat.le_refl _),hn,trivial,Rn (Nat.le_refl _),hn⟩,lH rfl fun i hi=>by
  show AV.rat (kq k n (i+0)) sK=_
  have hi:i<bZ k n:=hi
  rw[Nat.add_zero];unfold kq;rw[if_pos hi]⟩
end Go.Am.B

/- gl.Check, ref08.Check. -/
namespace Go.Am.B
open Go Go.Am.N AV aa ak IntKind
theorem Ws:aP P sC rK (au rK):=aQ ajx (by kernel_rfl) (by kernel_rfl) (by kernel_rfl)
noncomputable def DW:aS:=(zQ,Lx)::(DX,Np)::(qc,oX)::FF
noncomputable abbrev yg:Code:=au rK
abbrev rE:List Nat:=[0,1,4,48,49,50]
abbrev FH (n:Nat) (k:Nat→Rat) (p:Int) (d:Nat) (f:Nat→Rat) (i:Nat):List AV:=[bq k n sJ,.int .i64 p,.int .i64 0,bq f d sK,.int .i64 d,.int .i64 i]
theorem ae2 {n:Nat} {k:Nat→Rat} {p:Int}:aJ T DW [18,15,22,29,35,46] 60 rE (before yg [1,1,1,0,1]) ⟨aN 0 [bq k n sJ,.int .i64 p],[],0⟩=
  let c16:Int:=(↑n:Int);let c15:Prop:=bK (fun i↦rat (k i) sJ) n sK;let c14:Nat:=Int.toNat (0:Int);let c13:Nat:=bZ (fun i↦aO (rat (k i) sJ)) n;let c11:Bool:=decide (p<(1:Int));let c10:Int:=i64.wrap (i64.wrap ((2:Int)*p)+(2:Int));let c9:Prop:=n<2^40;let c7:List AV:=[tuple [],tuple [],tuple []];let c6:Bool:=!oA (qV n fun i↦aO (rat (k i) sJ));let c3:AV:=aj 3 n fun i↦rat (k i) 4000;let c12:List AV:=c3::int i64 p::int i64 (1:Int)::c7;let c8:Int:=i64.wrap (i64.wrap (c16-p)-(1:Int));let c5:Int:=i64.wrap (c16-(1:Int));let c4:aa (List AV×aC):=leaf ret (c3::int i64 p::int i64 (5:Int)::c7,[]);let c2:aa (List AV×aC):=ag [bK (fun i↦rat (k i) sJ) n sJ,c9] (leaf normal ([c3,int i64 p,int i64 (0:Int),aj 3 c13 fun i↦rat (dw (fun i↦aO (rat (k i) sJ)) n i) 4096,int i64 (↑c13:Int),int i64 (0:Int)],[]));let c1:aa (List AV×aC):=fork (decide (c16<c10)) c4 (fork (decide (c8>(40:Int))) (leaf ret (c3::int i64 p::int i64 (2:Int)::c7,[])) (fork c6 (ag [c15,c9,c6=true] (fork true c4 c2)) (ag [c15,c9,c6=false,(0:Int)≤(0:Int)∧c14<n,(0:Int)≤c5∧c5.toNat<n] (fork (bif false then true else decide (k c14=k c5.toNat)) c4 c2))));some (fork c11 (ag [c11=true] (fork true (leaf ret (c12,[])) c1)) (ag [c11=false] (fork (bif false then true else decide (p>(6:Int))) (leaf ret (c12,[])) c1))):=by kernel_rfl
theorem ZB {n d i:Nat} {k f:Nat→Rat} {p:Int}:aJ T DW [51,62,73,79,82,87] 60 rE [part yg [1,1,1,0,1,0,0]] ⟨aB rE (FH n k p d f i),[],1⟩=
  let c18 : Int := (↑d : Int); let c16 : Prop := false = false; let c13 : Int := (↑i : Int); let c12 : Prop := 0 < 1; let c11 : AV := aj 3 d fun i ↦ rat (f i) 4096; let c10 : AV := aj 3 n fun i ↦ rat (k i) 4000; let c9 : Int := i64.wrap ((↑n : Int) - (1 : Int)); let c8 : Nat := Int.toNat (0 : Int); let c17 : Prop := (0 : Int) ≤ (0 : Int) ∧ c8 < n; let c14 : List AV := [c11, int i64 c18, int i64 c13]; let c7 : Rat := f c13.toNat; let c1 : aa (List AV × aC) := leaf normal ([c10, int i64 p, int i64 (0 : Int), c11, int i64 c18, int i64 (i64.wrap (c13 + (1 : Int)))], []); let c15 : Bool := decide (c7 = k c8); let c4 : Int := (↑(aU (fun i ↦ aO (rat (k i) sJ)) c7 n) : Int); let c3 : Bool := bif false then true else decide (c7 = k c9.toNat); let c2 : aa (List AV × aC) := leaf ret (c10 :: int i64 p :: int i64 (5 : Int) :: c14, []); let c6 : aa (List AV × aC) := fork (bif false then true else bif true then decide (c4 > p) else false) c2 c1; let c5 : Bool := bif true then c4 != i64.wrap (p + (1 : Int)) else false; some (fork (decide (c13 < c18)) (ag [(0 : Int) ≤ c13 ∧ c13.toNat < d, c12] (ag [c12, bK (fun i ↦ rat (k i) sJ) n sK, sK ≤ sK, n < 2 ^ 40] (fork c15 (ag [c12, c17, c15 = true] (fork true (fork c5 (ag [true = true, c5 = true] (fork true c2 c1)) (fork false (ag [true = true, c5 = false, (!true) = true] c6) (ag [true = true, c5 = false, (!true) = false] (fork false c2 c1)))) (fork false (ag [true = false, false = true] (fork true c2 c1)) (fork false (ag [true = false, c16, (!true) = true] c6) (ag [true = false, c16, (!true) = false] (fork false c2 c1)))))) (ag [c12, c17, c15 = false, c12, (0 : Int) ≤ c9 ∧ c9.toNat < n] (fork c3 (fork c5 (ag [c3 = true, c5 = true] (fork true c2 c1)) (fork (!c3) (ag [c3 = true, c5 = false, (!c3) = true] c6) (ag [c3 = true, c5 = false, (!c3) = false] (fork false c2 c1)))) (fork false (ag [c3 = false, false = true] (fork true c2 c1)) (fork (!c3) (ag [c3 = false, c16, (!c3) = true] c6) (ag [c3 = false, c16, (!c3) = false] (fork false c2 c1))))))))) (leaf (exit 1) (c10 :: int i64 p :: int i64 (0 : Int) :: c14, []))) := by kernel_rfl
theorem Rx {n d i:Nat} {k f:Nat→Rat} {p:Int}:bY T DW [] 60 rK [part yg [1,1,1,1]] ⟨aB rE (FH n k p d f i),[],1⟩=
  some (leaf ret [int i64 (0:Int)]):=by kernel_rfl
theorem ajE:aW P DW:=aH aeL (aH aiN (aH Im La))
def uB (n:Nat) (p:Int):Prop:=1≤p∧p≤6∧2*p+2≤(n:Int)∧(n:Int)-p-1≤40
theorem RX {n:Nat} {k:Nat→Rat} {p:Int} (hn:n<2^40) (K:Nat):aA P sC K [bq k n sJ,.int .i64 p] [] (aG (.int .i64 (fZ n k p)) []):=by
 refine fD (r:=aG (.int .i64 (fZ n k p)) []) hT ajE hm Ws rfl (of_decide_eq_true (by kernel_rfl)) rfl [1,1,1,0,1] (i:=1) (y:=part yg [1,1,1,0,1,0,0]) (z:=part yg [1,1,1,1]) (by kernel_rfl) (by kernel_rfl) (by kernel_rfl) (f1:=[18,15,22,29,35,46]) (f2:=[51,62,73,79,82,87]) (f3:=[]) 60 rE 1
  (fun i:Nat=>FH n k p (bZ k n) (dw k n) i) (fun _=>[]) (fun i=>i≤bZ k n∧uB n p∧qV n k∧k 0≠k (n-1)∧∀j,j<i→¬jO n k p.toNat (dw k n j)) (fun _=>uB n p∧qK n k p.toNat) (fun i=>bZ k n-i) (fun _=>⟨⟨_,ae2,?_⟩,fun i ⟨h1,h2,h3,h4,h5⟩=>⟨_,ZB,?_⟩,fun i ⟨h1,h2⟩=>⟨_,Rx,?_⟩⟩) K []
 ·have r:∀{e:Int} {u:AV},fZ n k p=e→nZ rK rE (.int .i64 (fZ n k p)) ([u,.int .i64 p,.int .i64 e,.tuple [],.tuple [],.tuple []],[]):=fun h=>⟨[.int .i64 _],by kernel_rfl,bt h.symm⟩
  by_cases hp:1≤p∧p≤6
  ·have e1:i64.wrap (i64.wrap (2*p)+2)=2*p+2:=by rw[wrap_i64 (show-2^63≤2*p by omega) (by omega)];exact wrap_i64 (by omega) (by omega)
   have e2:i64.wrap (i64.wrap ((n:Int)-p)-1)=(n:Int)-p-1:=by rw[wrap_i64 (show-2^63≤(n:Int)-p by omega) (by omega)];exact wrap_i64 (by omega) (by omega)
   have e3:i64.wrap ((n:Int)-1)=(n:Int)-1:=wrap_i64 (by omega) (by omega)
   have e5:((n:Int)-1).toNat=n-1:=by omega
   simp only[aa.all,ax,decide_eq_true_eq,decide_eq_false_iff_not,Bool.not_eq_true',Bool.not_eq_false',cond_true,cond_false,Int.toNat_natCast,Int.toNat_zero,A3,e1,e2,e3,e5]
   (repeat' with_reducible first|refine And.intro ?_ ?_|intro _)
   all_goals first|exact absurd ‹true=false› (by decide)|exact absurd ‹false=true› (by decide)|omega|(exfalso;omega)|exact ct (by decide)|assumption|exact r (afh (by omega) (by omega))|exact r (TF (by omega) (by omega) (by omega))|exact r (HL (by omega) (by omega) (by omega) fun h=>agn ‹_› h.1)|exact r (HL (by omega) (by omega) (by omega) fun h=>h.2.1 ‹_›)|exact⟨0,⟨Nat.zero_le _,⟨by omega,by omega,by omega,by omega⟩,RH ‹_›,‹_›,fun j hj=>absurd hj (Nat.not_lt_zero j)⟩,dN.vals rfl⟩|skip
   skip
  ·simp only[aa.all,ax,decide_eq_true_eq,decide_eq_false_iff_not,Bool.not_eq_true',Bool.not_eq_false',cond_true,cond_false,Int.toNat_natCast]
   (repeat' with_reducible first|refine And.intro ?_ ?_|intro _)
   all_goals first|exact absurd ‹true=false› (by decide)|exact absurd ‹false=true› (by decide)|omega|(exfalso;omega)|exact r (adT (by omega))|skip
   skip
 ·obtain⟨q,rfl⟩:∃q:Nat,p=(q:Int):=⟨p.toNat,by have:=h2.1;omega⟩
  have hq:=h2
  unfold uB at hq
  have e1:i64.wrap ((q:Int)+1)=((q+1:Nat):Int):=by rw[wrap_i64 (by omega) (by omega)];rfl
  have e2:i64.wrap ((i:Int)+1)=((i+1:Nat):Int):=by rw[wrap_i64 (by omega) (by have:=uC (k:=k) (n:=n);omega)];rfl
  have e3:i64.wrap ((n:Int)-1)=(n:Int)-1:=wrap_i64 (by omega) (by omega)
  have e5:((n:Int)-1).toNat=n-1:=by omega
  simp only[Int.toNat_natCast]at h5
  have hd:=uC (k:=k) (n:=n)
  have r:∀{u v w x y:AV},jO n k q (dw k n i)→i<bZ k n→nZ rK rE (.int .i64 (fZ n k q)) ([u,v,.int .i64 5,w,x,y],[]):=fun h hi=>⟨[.int .i64 5],by kernel_rfl,bt (HL (by omega) (by omega) (by omega) fun hk=>hk.2.2 i hi (by rw[Int.toNat_natCast];exact h)).symm⟩
  have nx:¬jO n k q (dw k n i)→i<bZ k n→∀j,j<i+1→¬jO n k q (dw k n j):=fun h hi j hj=>by
   by_cases he:j=i
   ·subst he;exact h
   ·exact h5 j (by omega)
  simp only[aa.all,ax,decide_eq_true_eq,decide_eq_false_iff_not,Bool.not_eq_true',Bool.not_eq_false',cond_true,cond_false,Int.toNat_natCast,Int.toNat_zero,A3,e1,e2,e3,e5,bne_iff_ne,bne_eq_false_iff_eq,ne_eq]
  obtain⟨c,hc⟩:∃c,aU k (dw k n i) n=c:=⟨_,rfl⟩
  have hc':aU (fun i=>k i) (dw k n i) n=c:=hc
  simp only[hc']
  have b1:dw k n i=k 0→c≠q+1→jO n k q (dw k n i):=fun h1 h2=>.inl ⟨.inl h1,by rw[hc];exact h2⟩
  have b2:dw k n i=k (n-1)→c≠q+1→jO n k q (dw k n i):=fun h1 h2=>.inl ⟨.inr h1,by rw[hc];exact h2⟩
  have b3:¬dw k n i=k 0→¬dw k n i=k (n-1)→q<c→jO n k q (dw k n i):=fun h1 h2 h3=>.inr ⟨fun h=>h.elim h1 h2,by rw[hc];exact h3⟩
  have g1:dw k n i=k 0→c=q+1→¬jO n k q (dw k n i):=by
   rintro h1 h2 (⟨_,h3⟩|⟨h3,_⟩)
   ·exact h3 (by rw[hc];exact h2)
   ·exact h3 (.inl h1)
  have g2:dw k n i=k (n-1)→c=q+1→¬jO n k q (dw k n i):=by
   rintro h1 h2 (⟨_,h3⟩|⟨h3,_⟩)
   ·exact h3 (by rw[hc];exact h2)
   ·exact h3 (.inr h1)
  have g3:¬dw k n i=k 0→¬dw k n i=k (n-1)→c≤q→¬jO n k q (dw k n i):=by
   rintro h1 h2 h3 (⟨h4,_⟩|⟨_,h4⟩)
   ·exact h4.elim h1 h2
   ·rw[hc]at h4;omega
  clear hc hc'
  (repeat' with_reducible first|refine And.intro ?_ ?_|intro _)
  all_goals first|exact absurd ‹true=false› (by decide)|exact absurd ‹false=true› (by decide)|omega|(exfalso;omega)|exact ct (by decide)|assumption|skip
  all_goals first
   |exact absurd ‹dw k n i=k (n-1)› ‹_›
   |exact⟨rfl,i,⟨h2,h3,h4,fun j hj=>h5 j (by omega)⟩,dN.vals rfl⟩
   |exact r (b1 ‹_› (by omega)) (by omega)
   |exact r (b2 ‹_› (by omega)) (by omega)
   |exact r (b3 ‹¬_=k 0› ‹_› (by have:=of_decide_eq_true ‹decide _=true›;omega)) (by omega)
   |exact⟨i+1,⟨by omega,h2,h3,h4,nx (g1 ‹_› (by omega)) (by omega)⟩,by dsimp only;omega,dN.vals rfl⟩
   |exact⟨i+1,⟨by omega,h2,h3,h4,nx (g2 ‹_› (by omega)) (by omega)⟩,by dsimp only;omega,dN.vals rfl⟩
   |exact⟨i+1,⟨by omega,h2,h3,h4,nx (g3 ‹¬_=k 0› ‹_› (by have:=of_decide_eq_false ‹decide _=false›;omega)) (by omega)⟩,by dsimp only;omega,dN.vals rfl⟩
 ·simp only[aa.all,ax]
  exact bt (VA (by have:=h1;unfold uB at this;omega) (by have:=h1;unfold uB at this;omega) (by have:=h1;unfold uB at this;omega) h2).symm
noncomputable def GI:Spec:=cD (kC (kL sJ) (kC kI kN)) (fun a=>.int .i64 (fZ a.1.1 a.1.2 a.2.1)) fun a=>[a.1.1<2^40]
theorem Nl:∀K args pre r,GI K args pre=some r→aA P sC K args pre r:=cj fun⟨⟨n,k⟩,p,_⟩ K hn=>RX hn K
end Go.Am.B

/- Poles, lists of zS, curves, surfaces as arguments. -/
namespace Go.Am.B
open Go Go.Am.N AV
def fI:AV→Pl
 |.agg [.agg [x,y,z],w]=>⟨⟨aO x,aO y,aO z⟩,aO w⟩
 |_=>⟨⟨0,0,0⟩,0⟩
def fj (f:Nat→AV) (n s:Nat):Prop:=∀i,i<n→bw (f i) (bI (fI (f i)) s)
abbrev iW (f:Nat→Pl) (n s:Nat):AV:=.aj 12 n (fun i=>bI (f i) s)
theorem Fc {u v:Pl} {n k:Nat} (h:u=v) (hk:n≤k):bw (bI u n) (bI v k):=
 h▸cB ⟨Di rfl hk,bG rfl hk,trivial⟩
theorem gU {f:Nat→Pl} {n s s':Nat} (h:s≤s'):fj (fun i=>bI (f i) s) n s':=fun _ _=>Fc rfl h
def r6:AV→Option (Nat×(Nat→AV))
 |.aj 12 n f=>some (n,f)
 |.nil=>some (0,fun _=>.nil)
 |_=>none
theorem WV {v:AV} {n s:Nat} {f:Nat→AV} (h:r6 v=some (n,f)) (ha:fj f n s):bw v (iW (fun i=>fI (f i)) n s):=by
 unfold r6 at h
 split at h
 ·simp only[Option.some.injEq,Prod.mk.injEq]at h
  obtain⟨rfl,rfl⟩:=h
  exact fT ha
 ·simp only[Option.some.injEq,Prod.mk.injEq]at h
  obtain⟨rfl,rfl⟩:=h
  exact kS (by omega)
 ·simp at h
def rZ (s:Nat):Kind (Nat×(Nat→Pl)):=⟨fun v=>match r6 v with
 |some (n,f)=>some ((n,fun i=>fI (f i)),[fj f n s])
 |none=>none,fun a=>iW a.2 a.1 s,fun {v a q} h hq=>by
  split at h
  ·rename_i h1
   simp only[Option.some.injEq,Prod.mk.injEq]at h
   obtain⟨rfl,rfl⟩:=h
   exact WV h1 hq
  ·simp at h⟩
abbrev cP (h:Pl) (s:Nat):AV:=.agg [.rat h.n.x s,.rat h.n.y s,.rat h.n.z s,.rat h.d s]
def F7 (s:Nat):Kind Pl:=⟨fun v=>match v with
 |.agg [x,y,z,w]=>match iP x,iP y,iP z,iP w with
  |some (x,a),some (y,b),some (z,c),some (w,d)=>some (⟨⟨x,y,z⟩,w⟩,[a≤s,b≤s,c≤s,d≤s])
  |_,_,_,_=>none
 |_=>none,fun a=>cP a s,fun {v a q} h hq=>by
  split at h
  ·split at h
   ·rename_i h1 h2 h3 h4
    simp only[Option.some.injEq,Prod.mk.injEq]at h
    obtain⟨rfl,rfl⟩:=h
    exact cB ⟨(jo h1).trans (bG rfl hq.1),(jo h2).trans (bG rfl hq.2.1),(jo h3).trans (bG rfl hq.2.2.1),(jo h4).trans (bG rfl hq.2.2.2),trivial⟩
   ·simp at h
  ·simp at h⟩
structure Cu where
 p:Int
 n:Nat
 k:Nat→Rat
 m:Nat
 f:Nat→Pl
abbrev bh (c:Cu) (s r:Nat):AV:=.agg [.int .i64 c.p,bq c.k c.n s,iW c.f c.m r]
def ij (s r:Nat):Kind Cu:=⟨fun v=>match v with
 |.agg [p,k,f]=>match kI.read p,(kL s).read k,(rZ r).read f with
  |some (p,q1),some ((n,k),q2),some ((m,f),q3)=>some (⟨p,n,k,m,f⟩,q1++(q2++q3))
  |_,_,_=>none
 |_=>none,fun a=>bh a s r,fun {v a q} h hq=>by
  split at h
  ·split at h
   ·rename_i h1 h2 h3
    simp only[Option.some.injEq,Prod.mk.injEq]at h
    obtain⟨rfl,rfl⟩:=h
    obtain⟨q1,hq⟩:=er.1 hq
    obtain⟨q2,q3⟩:=er.1 hq
    exact cB ⟨kI.ok h1 q1,(kL s).ok h2 q2,(rZ r).ok h3 q3,trivial⟩
   ·simp at h
  ·simp at h⟩
structure Sf where
 u:Int
 v:Int
 a:Nat
 ku:Nat→Rat
 b:Nat
 kv:Nat→Rat
 n:Nat
 m:Nat
 f:Nat→Nat→Pl
theorem BH {rl:List (Nat×Nat)} {l i s s' s2:Nat} {x y:Nat→Pl} {t:AV} {z:AV} (hx:∀i,i<l→x i=y i) (ht:bw t (bI (y l) s')) (hk:keys t=[]) (h1:s≤s2) (h2:s'≤s2) (hi:i<l+1):
  fz rl (if i<l then bI (x i) s else nth [t] z (i-l+0)) (bI (y i) s2):=by
 by_cases h:i<l
 ·rw[if_pos h,hx i h];exact .inr ⟨rfl,Fc rfl h1⟩
 ·have:i=l:=by omega
  subst this
  rw[if_neg h,Nat.sub_self]
  exact .inr ⟨hk,ht.trans (Fc rfl h2)⟩
end Go.Am.B

/- ref02: Valid, Valids, Bits; ref04.Valid; ref10: Short, shortPoles. -/
namespace Go.Am.B
open Go Go.Am.N AV aa ak IntKind
end Go.Am.B

/- ref09: part, function, Values. -/
namespace Go.Am.B
open Go Go.Am.N AV aa ak IntKind
end Go.Am.B

/- ref10: Lift, Homogeneous, Drop, Eval. -/
namespace Go.Am.B
open Go Go.Am.N AV aa ak IntKind
theorem N3:aP P BQ u5 (au u5):=aQ ad3 (by kernel_rfl) (by kernel_rfl) (by kernel_rfl)
theorem abY:aP P Hu D7 (au D7):=aQ Yv (by kernel_rfl) (by kernel_rfl) (by kernel_rfl)
theorem QN:aP P yS w8 (au w8):=aQ ac2 (by kernel_rfl) (by kernel_rfl) (by kernel_rfl)
noncomputable def Qy:aS:=[(BQ,kX T (sG::nL) [] 60 u5)]
noncomputable def Na:aS:=[(Hu,kX T (sG::Qy) [] 60 D7)]
noncomputable def M9:aS:=(r9,ic kR kR E7 nI)::(BQ,kX T o7 [] 60 u5)::o7
abbrev sH:Nat:=2147483648
abbrev sE:Nat:=4294967298
def oB (h:Pl):V3:=⟨((1:Int):Rat)/h.d*h.n.x,((1:Int):Rat)/h.d*h.n.y,((1:Int):Rat)/h.d*h.n.z⟩
def J4:Spec:=cD (kC (F7 sH) kN) (fun a=>.agg [vA (oB a.1) sE,.rat a.1.d sH]) fun _=>[]
abbrev lz (h:Pl) (s:Nat):ah:=⟨false,true,12,1,fun _=>cP h s⟩
theorem ahu {h:Pl} {s:Nat}:bC T M9 [] 60 w8 (au w8) ⟨aN 0 [cP h s],[],0⟩=
  let c9:Prop:=(0:Int)≤(0:Int);let c8:Rat:=(↑(1:Int):Rat)/h.d;let c7:Int:=(↑(4:Nat):Int);let c6:Int:=(↑(3:Nat):Int);let c4:Nat:=2^41;let c3:Int:=i64.wrap ((0:Int)+(1:Int));let c2:Nat:=Max.max 1 (bu (Int.natAbs (1:Int)));let c1:Prop:=0<1;let c11:Int:=i64.wrap (c3+(1:Int));let c10:Prop:=(0:Int)≤(3:Int)∧(3:Int)<c7;let c5:Prop:=(0:Int)≤c11∧c11<c6;some (ag [-(2:Int)^63≤(1:Int),(1:Int)<(2:Int)^63,c10,c1,c2<c4,s<c4,c9∧(0:Int)<c7,c1,(0:Int)≤(1:Int)∧(1:Int)<c7,c1,(0:Int)≤(2:Int)∧(2:Int)<c7,c1,c1,c9∧(0:Int)<c6,c1,c2+s<c4,s<c4,c9∧(0:Int)<c6,c1,c1,(0:Int)≤c3∧c3<c6,c1,c2+s<c4,s<c4,(0:Int)≤c3∧c3<c6,c1,c1,c5,c1,c2+s<c4,s<c4,c5,c1,c1,c1,c1,c10,c1,c1] (ag [c1] (leaf ret [agg [agg [rat (c8*h.n.x) (c2+s+s),rat (c8*h.n.y) (c2+s+s),rat (c8*h.n.z) (c2+s+s)],rat h.d s]]))):=by kernel_rfl
def VO (c:Cu) (x:Nat→Rat) (b j:Nat):Pl:=
 ⟨⟨mU j fun j=>x j*((c.f (b+j)).d*(c.f (b+j)).n.x),mU j fun j=>x j*((c.f (b+j)).d*(c.f (b+j)).n.y),mU j fun j=>x j*((c.f (b+j)).d*(c.f (b+j)).n.z)⟩,mU j fun j=>x j*(c.f (b+j)).d⟩
def adP (c:Cu) (t:Rat):Pl:=VO c (vB c.k (bz c.n c.k t) t c.p.toNat) (bz c.n c.k t-c.p.toNat) (c.p.toNat+1)
theorem R4:aW P Qy:=aH (mE hT (mT oG) hm N3 _ _) bp
theorem aiq:aW P Na:=aH (mE hT (mT R4) hm abY _ _) bp
theorem afR:aW P M9:=aH (iF fun _ _ K hn=>Hx hn.1 hn.2 K) (aH (mE hT qJ hm N3 _ _) qJ)
theorem aiP {h:Pl} {s s':Nat} (hs:s<2^40) (hs':1+s+s≤s') (K:Nat):aA P yS K [cP h s] [] (aG (.agg [vA (oB h) s',.rat h.d s]) []):=by
 refine bJ (r:=aG (.agg [vA (oB h) s',.rat h.d s]) []) hT afR hm QN rfl (of_decide_eq_true (by kernel_rfl)) rfl 60 (ahu (s:=s)) (fun _=>?_) K []
 have e1:i64.wrap ((0:Int)+1)=1:=rfl
 have e2:i64.wrap ((1:Int)+1)=2:=rfl
 simp only[aa.all,ax,JC,e1,e2]
 refine⟨?_,by omega,cB ⟨cB ⟨bG rfl (by omega),bG rfl (by omega),bG rfl (by omega),trivial⟩,.refl _,trivial⟩⟩
 (repeat' with_reducible refine And.intro ?_ ?_)
 all_goals omega
theorem ahs:∀K args pre r,J4 K args pre=some r→aA P yS K args pre r:=cj fun⟨h,_⟩ K _=>aiP (by decide) (by decide) K
def Dm (c:Cu) (t:Rat):V3:=if dM c.n c.k t then⟨0,0,0⟩else oB (adP c t)
end Go.Am.B

/- ref12: row, Swap, IsoV, IsoU, Eval. -/
namespace Go.Am.B
open Go Go.Am.N AV aa ak IntKind
abbrev NZ (s:Sf):Sf:=⟨s.v,s.u,s.b,s.kv,s.a,s.ku,s.m,s.n,fun j i=>s.f i j⟩
abbrev ta:ah:=⟨false,true,3,1,fun _=>.agg [.int .i64 0,.nil,.nil]⟩
structure BP (s:Sf):Prop where
 ku:Kn s.a s.u.toNat s.ku
 kv:Kn s.b s.v.toNat s.kv
 u0:0≤s.u
 u6:s.u≤6
 v0:0≤s.v
 v6:s.v≤6
 a:s.a<2^30
 b:s.b<2^30
 n:(s.n:Int)=(s.a:Int)-s.u-1
 m:(s.m:Int)=(s.b:Int)-s.v-1
end Go.Am.B

/- spline.Of, Four.Pole, curve.of, Spline.Eval, curve.sound, curve.Eval. -/
namespace Go.Am.B
open Go Go.Am.N AV aa ak IntKind
theorem Yu:aP P HU BD (au BD):=aQ TA (by kernel_rfl) (by kernel_rfl) (by kernel_rfl)
theorem ajQ:aP P rQ xH (au xH):=aQ akq (by kernel_rfl) (by kernel_rfl) (by kernel_rfl)
theorem V7:aP P mY z9 (au z9):=aQ af1 (by kernel_rfl) (by kernel_rfl) (by kernel_rfl)
theorem Lg:aP P wH qu (au qu):=aQ XB (by kernel_rfl) (by kernel_rfl) (by kernel_rfl)
theorem adG:aP P xD yI (au yI):=aQ aih (by kernel_rfl) (by kernel_rfl) (by kernel_rfl)
theorem U7:aP P Da zh (au zh):=aQ Rf (by kernel_rfl) (by kernel_rfl) (by kernel_rfl)
def b9 (p:Pl):Pl:=⟨⟨p.d*p.n.x,p.d*p.n.y,p.d*p.n.z⟩,p.d⟩
def dZ (h:Pl):Pl:=⟨⟨h.n.x/h.d,h.n.y/h.d,h.n.z/h.d⟩,h.d⟩
abbrev qd (f:Nat→Pl) (n s:Nat):AV:=.aj 12 n (fun i=>cP (f i) s)
abbrev dQ (c:Cu) (s r:Nat):AV:=.agg [.int .i64 c.p,bq c.k c.n s,qd c.f c.m r]
def Lb:aS:=nG::gb
noncomputable def BW:aS:=nG::(HU,kX T Lb [] 80 BD)::gb
abbrev wQ:List Nat:=[2,3,12,13,14]
abbrev EZ (c:Cu) (r i:Nat):List AV:=[.ptr 0 0 3 0 [],.ptr 1 0 3 0 [],iW c.f c.m r,.int .i64 c.m,.int .i64 i]
abbrev Em (c:Cu) (x w i:Nat):aC:=[(2,⟨true,true,12,i,fun j=>cP (b9 (c.f j)) w⟩),(1,⟨false,true,3,1,fun _=>.agg [.int .i64 c.p,bq c.k c.n x,.own 2 12 0 i]⟩),(0,⟨false,true,3,1,fun _=>.agg [.int .i64 0,.nil,.nil]⟩)]
noncomputable abbrev Ba:Code:=au z9
def Nw:aS:=nG::(uy,ic kR kR BA qn)::gb
def Mg (f:Nat→Pl) (x:Nat→Rat) (b j:Nat):Pl:=
 ⟨⟨mU j fun j=>x j*(f (b+j)).n.x,mU j fun j=>x j*(f (b+j)).n.y,mU j fun j=>x j*(f (b+j)).n.z⟩,mU j fun j=>x j*(f (b+j)).d⟩
def Ce:aS:=nG::(xW,MG)::gb
abbrev yW:List Nat:=[4,5,2,6,7,36,37,38]
abbrev BT (p i:Nat) (x:Nat→Rat) (j:Nat):List AV:=[.ptr 1 0 12 0 [],.int .i64 0,.ptr 0 0 3 0 [],.ptr 2 0 12 0 [],.int .i64 ((i:Int)-p),.aj 3 (p+1) (fun j=>.rat (x j) sV),.int .i64 ((p+1:Nat):Int),.int .i64 j]
abbrev pq (c:Cu) (r:Nat):ah:=⟨false,true,3,1,fun _=>dQ c sK r⟩
noncomputable abbrev uO:Code:=au qu
def qW:AV→Pl
 |.agg [x,y,z,w]=>⟨⟨aO x,aO y,aO z⟩,aO w⟩
 |_=>⟨⟨0,0,0⟩,0⟩
def jF (f:Nat→AV) (n s:Nat):Prop:=∀i,i<n→bw (f i) (cP (qW (f i)) s)
theorem ag3 {v:AV} {n s:Nat} {f:Nat→AV} (h:r6 v=some (n,f)) (ha:jF f n s):bw v (qd (fun i=>qW (f i)) n s):=by
 unfold r6 at h
 split at h
 ·simp only[Option.some.injEq,Prod.mk.injEq]at h
  obtain⟨rfl,rfl⟩:=h
  exact fT ha
 ·simp only[Option.some.injEq,Prod.mk.injEq]at h
  obtain⟨rfl,rfl⟩:=h
  exact kS (by omega)
 ·simp at h
theorem UY {h:Pl} {s:Nat}:bC T Nw [] 80 xH (au xH) ⟨aN 0 [cP h s],[],0⟩=
  let c8:Int:=(↑(3:Nat):Int);let c7:Int:=(↑(4:Nat):Int);let c5:Int:=(2:Int)^63;let c4:Prop:=s<2^42;let c2:Prop:=0<1;let c1:Int:=(0:Int)+(1:Int);let c6:Int:=c1+(1:Int);let c3:Prop:=(0:Int)≤(3:Int)∧(3:Int)<c7;some (ag [c3,c2,c4,(1:Nat)<2^42,c2] (ag [(0:Int)≤(0:Int)∧(0:Int)<c7,c2,c3,c2,c4,c4,(0:Int)≤(0:Int)∧(0:Int)<c8,c2] (ag [-c5≤c1∧c1<c5] (ag [(0:Int)≤c1∧c1<c7,c2,c3,c2,c4,c4,(0:Int)≤c1∧c1<c8,c2] (ag [-c5≤c6∧c6<c5] (ag [(0:Int)≤c6∧c6<c7,c2,c3,c2,c4,c4,(0:Int)≤c6∧c6<c8,c2] (ag [-c5≤c6+(1:Int)∧c6+(1:Int)<c5] (ag [c2,c2] (ag [c2] (leaf ret [agg [agg [rat (h.n.x/h.d) (s+s),rat (h.n.y/h.d) (s+s),rat (h.n.z/h.d) (s+s)],rat (h.d+0) (s+1+1)]])))))))))):=by kernel_rfl
theorem Uk {c:Cu} {x r:Nat}:aJ T BW [] 60 wQ (before Ba [1,1,0,1]) ⟨aN 0 [bh c x r],[],0⟩=
  let c2:Prop:=0<1;let c1:AV:=agg [int i64 (0:Int),nil,nil];some (ag [c2,c2,c2] (ag [c2] (leaf normal ([ptr 4096 0 3 0 [],ptr 28672 0 3 0 [],aj 12 c.m fun i↦agg [agg [rat (c.f i).n.x r,rat (c.f i).n.y r,rat (c.f i).n.z r],rat (c.f i).d r],int i64 (↑c.m:Int),int i64 (0:Int)],[((28672:Nat),ah.mk false true 3 1 fun j↦if(j==0)=true then aT (agg ((c1.kids.set 0 (aT (int i64 c.p))).set 1 (aT (bq c.k c.n x))))else c1),((4096:Nat),ah.mk false true 3 1 fun x↦c1)])))):=by kernel_rfl
theorem afL {c:Cu} {x r w i:Nat}:aJ T BW [15] 60 wQ [part Ba [1,1,0,1,0,0]] ⟨aB wQ (EZ c r i),Em c x w i,3⟩=
  let c17:Int:=(↑c.m:Int);let c16:Int:=(↑(3:Nat):Int);let c15:AV:=own 2 12 0 i;let c14:AV:=ptr 1 0 3 0 [];let c13:AV:=ptr 0 0 3 0 [];let c12:Int:=(↑(4:Nat):Int);let c11:Int:=(↑i:Int);let c10:AV:=rat 0 1;let c7:Nat×ah:=((0:Nat),ah.mk false true 3 1 fun x↦agg [int i64 (0:Int),nil,nil]);let c5:AV:=aj 12 c.m fun i↦agg [agg [rat (c.f i).n.x r,rat (c.f i).n.y r,rat (c.f i).n.z r],rat (c.f i).d r];let c4:Int:=(2:Int)^63;let c3:Prop:=r<2^42;let c2:Int:=(0:Int)+(1:Int);let c1:Prop:=0<1;let c18:Int:=c11+(1:Int);let c9:AV:=agg [int i64 c.p,bq c.k c.n x,c15];let c8:Int:=c2+(1:Int);let c6:Pl:=c.f c11.toNat;some (fork (decide (c11<c17)) (ag [(0:Int)≤c11∧c11.toNat<c.m,c1] (ag [c1,c1,c1,(0:Int)≤(0:Int)∧(0:Int)<c16,c1,c1,c1,c3,c3,(0:Int)≤(0:Int)∧(0:Int)<c12,c1,-c4≤c2∧c2<c4,(0:Int)≤c2∧c2<c16,c1,c1,c1,c3,c3,(0:Int)≤c2∧c2<c12,c1,-c4≤c8∧c8<c4,(0:Int)≤c8∧c8<c16,c1,c1,c1,c3,c3,(0:Int)≤c8∧c8<c12,c1,-c4≤c8+(1:Int)∧c8+(1:Int)<c4,c1,c3,(1:Nat)<2^42,(0:Int)≤(3:Int)∧(3:Int)<c12,c1,c1,c1,c1,(1:Nat)*12≤2^24,(i+1)*((224:Nat)+1)*2≤2^47,c1] (ag [-c4≤c18∧c18<c4] (leaf normal ([c13,c14,c5,int i64 c17,int i64 c18],[((40963:Nat),ah.mk true true 12 (i+1) fun i_1↦if i_1<i then cP (b9 (c.f i_1)) w else nth [agg [rat (c6.d*c6.n.x) (r+r),rat (c6.d*c6.n.y) (r+r),rat (c6.d*c6.n.z) (r+r),rat (c6.d+0) (r+1+1)]] (agg [c10,c10,c10,c10]) (i_1-i+0)),((1:Nat),ah.mk false true 3 1 fun j↦if(j==0)=true then agg (c9.kids.set 2 (aT (own (nat_lit 40962+1) 12 0 (i+1))))else c9),c7]))))) (leaf (exit 0) ([c13,c14,c5,int i64 c17,int i64 c11],[((2:Nat),ah.mk true true 12 i fun j↦agg [rat ((c.f j).d*(c.f j).n.x) w,rat ((c.f j).d*(c.f j).n.y) w,rat ((c.f j).d*(c.f j).n.z) w,rat (c.f j).d w]),((1:Nat),ah.mk false true 3 1 fun x_1↦agg [int i64 c.p,aj 3 c.n fun i↦rat (c.k i) x,c15]),c7]))):=by kernel_rfl
theorem TN {c:Cu} {x r w i:Nat}:bY T BW [] 60 z9 [part Ba [1,1,1]] ⟨aB wQ (EZ c r i),Em c x w i,3⟩=
  let c1:Prop:=0<1;some (ag [c1,c1] (ag [c1] (leaf ret [agg [int i64 c.p,aj 3 c.n fun i↦rat (c.k i) x,aj 12 i fun i↦agg [rat ((c.f (i+0)).d*(c.f (i+0)).n.x) w,rat ((c.f (i+0)).d*(c.f (i+0)).n.y) w,rat ((c.f (i+0)).d*(c.f (i+0)).n.z) w,rat (c.f (i+0)).d w]]]))):=by kernel_rfl
theorem Ze {c:Cu} {r:Nat} {t:Rat}:aJ T Ce [25,34] 60 yW (before uO [1,1,1,1,0,1]) ⟨aN 0 [dQ c sK r,.rat t sK],[],0⟩=
  let c16 : Nat := bz c.n (fun i ↦ aO (rat (c.k i) sK)) t; let c15 : Prop := dM c.n (fun i ↦ aO (rat (c.k i) sK)) t; let c14 : AV := ptr 8192 0 12 0 []; let c13 : AV := ptr 16384 0 12 0 []; let c12 : AV := ptr 0 0 (aT (dQ c sK r)).size 0 []; let c11 : AV := rat 0 1; let c10 : Prop := 0 < 1; let c8 : Bool := eU c.n (fun i ↦ aO (rat (c.k i) sK)) t != (0 : Int); let c6 : Nat × ah := ((0 : Nat), ah.mk false true (aT (dQ c sK r)).size 1 fun x ↦ agg [int i64 c.p, aj 3 c.n fun i ↦ rat (c.k i) 4096, aj 12 c.m fun i ↦ agg [rat (c.f i).n.x r, rat (c.f i).n.y r, rat (c.f i).n.z r, rat (c.f i).d r]]); let c7 : Nat := if c15 then 0 else c.p.toNat + 1; let c5 : Int := if c15 then (0 : Int) else (↑c16 : Int) - (↑c.p.toNat : Int); let c4 : AV := agg [c11, c11, c11, c11]; let c9 : ah := ah.mk false true 12 1 fun x ↦ c4; let c3 : Int := c5 + (↑c7 : Int); let c2 : aa (List AV × aC) := leaf normal ([c14, int i64 (0 : Int), c12, c13, int i64 c5, aj 3 c7 fun j ↦ rat (vB (fun i ↦ aO (rat (c.k i) sK)) c16 t c.p.toNat j) 268435456, int i64 (↑c7 : Int), int i64 (0 : Int)], [((16384 : Nat), c9), c6, ((8192 : Nat), c9)]); let c1 : aa (List AV × aC) := ag [c10] (leaf ret ([c14, int i64 (7 : Int), c12, c13, int i64 c5, tuple [], tuple [], tuple []], [((16384 : Nat), c9), c6, ((8192 : Nat), ah.mk false true 12 1 fun j ↦ if (j == 0) = true then aT (agg c4.kids) else c4)])); some (ag [c10, c10, c10, bK (fun i ↦ rat (c.k i) sK) c.n sK, sK ≤ sK, Kn c.n c.p.toNat fun i ↦ aO (rat (c.k i) sK), (0 : Int) ≤ c.p, c.p ≤ (6 : Int), c.n < 2 ^ 40] (fork c8 (ag [c8 = true] (fork true c1 c2)) (ag [c8 = false, -(2 : Int) ^ 63 ≤ c3 ∧ c3 < (2 : Int) ^ 63, c10] (fork (bif false then true else decide (c3 > (↑c.m : Int))) c1 c2)))) := by kernel_rfl
theorem afY {c:Cu} {h:Pl} {p i j s r:Nat} {x:Nat→Rat}:aJ T Ce [39] 60 yW [part uO [1,1,1,1,0,1,0,0]] ⟨aB yW (BT p i x j),[(2,lz h s),(1,lz ⟨⟨0,0,0⟩,0⟩ 1),(0,pq c r)],3⟩=
  let c29:Int:=(↑i:Int)-(↑p:Int);let c26:AV:=ptr 0 0 3 0 [];let c24:AV:=ptr 2 0 12 0 [];let c23:AV:=ptr 1 0 12 0 [];let c21:AV:=rat 0 1;let c20:Int:=(↑(p+1):Int);let c19:AV:=aj 3 (p+1) fun j↦rat (x j) 268435456;let c16:Int:=(↑j:Int);let c15:Bool:=0==0;let c10:Int:=(↑(4:Nat):Int);let c9:Int:=(0:Int)+(1:Int);let c8:Nat:=2^42;let c7:Prop:=0<1;let c6:Int:=(2:Int)^63;let c33:Prop:=sV+r<c8;let c32:Rat:=x c16.toNat;let c31:Int:=c16+(1:Int);let c28:Prop:=(0:Int)≤c9∧c9<c10;let c18:Prop:=(0:Int)≤(0:Int)∧(0:Int)<c10;let c4:List (Nat×ah):=[((0:Nat),ah.mk false true 3 1 fun x↦agg [int i64 c.p,aj 3 c.n fun i↦rat (c.k i) 4096,aj 12 c.m fun i↦agg [rat (c.f i).n.x r,rat (c.f i).n.y r,rat (c.f i).n.z r,rat (c.f i).d r]]),((1:Nat),ah.mk false true 12 1 fun x↦agg [c21,c21,c21,c21])];let c3:Int:=c9+(1:Int);let c2:Int:=c29+c16;let c30:Pl:=c.f c2.toNat;let c27:Prop:=(0:Int)≤c3∧c3<c10;let c25:Prop:=-c6≤c2∧c2<c6;let c17:Prop:=(0:Int)≤c2∧c2.toNat<c.m;let c12:Int:=c3+(1:Int);let c22:Prop:=(0:Int)≤c12∧c12<c10;let c11:AV:=agg ((cP h s).kids.set (Int.toNat (0:Int)) (aT (lF (h.n.x,s) (c32*c30.n.x,sV+r))));let c5:AV:=if c15=true then c11 else cP h s;let c13:AV:=agg (c5.kids.set c9.toNat (aT (lF (h.n.y,s) (c32*c30.n.y,sV+r))));let c1:AV:=if c15=true then c13 else c5;let c14:AV:=agg (c1.kids.set c3.toNat (aT (lF (h.n.z,s) (c32*c30.n.z,sV+r))));some (fork (decide (c16<c20)) (ag [(0:Int)≤c16∧c16.toNat<p+1,c7] (ag [c18,c7,c7,c7,c25,c17,c18,sV<c8,r<c8,s<c8,c33,c18,c7] (ag [-c6≤c9∧c9<c6] (ag [c28,c7,c7,c7,c25,c17,c28,sV<c8,r<c8,s<c8,c33,c28,c7] (ag [-c6≤c3∧c3<c6] (ag [c27,c7,c7,c7,c25,c17,c27,sV<c8,r<c8,s<c8,c33,c27,c7] (ag [-c6≤c12∧c12<c6] (ag [c22,c7,c7,c7,c25,c17,c22,sV<c8,r<c8,s<c8,c33,c22,c7] (ag [-c6≤c12+(1:Int)∧c12+(1:Int)<c6] (ag [-c6≤c31∧c31<c6] (leaf normal ([c23,int i64 (0:Int),c26,c24,int i64 c29,c19,int i64 c20,int i64 c31],((2:Nat),ah.mk false true 12 1 fun j↦if(j==0)=true then agg ((if c15=true then c14 else c1).kids.set c12.toNat (aT (lF (h.d,s) (c32*c30.d,sV+r))))else if(j==0)=true then c14 else if(j==0)=true then c13 else if(j==0)=true then c11 else cP h s)::c4)))))))))))) (leaf (exit 0) ([c23,int i64 (0:Int),c26,c24,int i64 c29,c19,int i64 c20,int i64 c16],((2:Nat),ah.mk false true 12 1 fun x↦agg [rat h.n.x s,rat h.n.y s,rat h.n.z s,rat h.d s])::c4))):=by kernel_rfl
theorem aeu {c:Cu} {h:Pl} {p i j s r:Nat} {x:Nat→Rat}:bY T Ce [] 60 qu [part uO [1,1,1,1,1]] ⟨aB yW (BT p i x j),[(2,lz h s),(1,lz ⟨⟨0,0,0⟩,0⟩ 1),(0,pq c r)],3⟩=
  let c1:Prop:=0<1;some (ag [c1,c1] (ag [c1] (leaf ret [agg [rat h.n.x s,rat h.n.y s,rat h.n.z s,rat h.d s],int i64 (0:Int)]))):=by kernel_rfl
theorem ai1:aW P Lb:=cL gY
theorem afr:aW P BW:=cL (aH (mE hT ai1 hm Yu _ _) gY)
theorem ZV:aW P Nw:=cL (aH (iF fun _ _ K hn=>Ht hn.1 hn.2 K) gY)
theorem OW:aW P Ce:=cL (aH Tf gY)
theorem EY {rl:List (Nat×Nat)} {l i:Nat} {f g:Nat→AV} {v z:AV} (hf:∀i,i<l→f i=g i∧keys (f i)=[]) (hk:keys v=[]) (hv:bw v (g l)) (hi:i<l+1):fz rl (if i<l then f i else nth [v] z (i-l+0)) (g i):=by
 by_cases h:i<l
 ·rw[if_pos h];exact aE (hf i h).2 (hf i h).1
 ·have:i=l:=by omega
  subst this
  rw[if_neg h,Nat.sub_self]
  exact .inr ⟨hk,hv⟩
theorem tJ {rl:List (Nat×Nat)} {p:Int} {v:AV} {a b i:Nat} (hv:keys v=[]) (ht:v.isTuple=false) (h:aV rl b=some a):fz rl (.agg [.int .i64 p,v,.own a 12 0 i]) (.agg [.int .i64 p,v,.own b 12 0 i]):=
 kP ⟨⟨rfl,aK rfl⟩,⟨ht,aK hv⟩,⟨rfl,cV h rfl rfl⟩,trivial⟩
theorem B3 {h h':Pl} {s s':Nat} (e:h=h') (hs:s≤s'):bw (cP h s) (cP h' s'):=e▸cB ⟨bG rfl hs,bG rfl hs,bG rfl hs,bG rfl hs,trivial⟩
theorem Ka {h:Pl} {s w:Nat} (hs:s<2^40) (h1:s+s≤w) (h2:s+2≤w) (K:Nat):aA P rQ K [cP h s] [] (aG (bI (dZ h) w) []):=by
 refine bJ (r:=aG (bI (dZ h) w) []) hT ZV hm ajQ rfl (of_decide_eq_true (by kernel_rfl)) rfl 80 UY (fun _=>?_) K []
 simp only[aa.all,ax]
 (repeat' with_reducible refine And.intro ?_ ?_)
 all_goals first|omega|skip
 exact cB ⟨cB ⟨bG rfl h1,bG rfl h1,bG rfl h1,trivial⟩,bG (Rat.add_zero _) (by omega),trivial⟩
theorem P5 {c:Cu} {x r w:Nat} (h1:r+r≤w) (h2:r+2≤w) (hw:w<2^40) (hn:c.n<2^40) (hm2:c.m<2^30) (K:Nat):aA P mY K [bh c x r] [] (aG (.agg [.int .i64 c.p,bq c.k c.n x,qd (fun i=>b9 (c.f i)) c.m w]) []):=by
 refine fD (r:=aG (.agg [.int .i64 c.p,bq c.k c.n x,qd (fun i=>b9 (c.f i)) c.m w]) []) hT afr hm V7 rfl (of_decide_eq_true (by kernel_rfl)) rfl [1,1,0,1] (i:=0) (y:=part Ba [1,1,0,1,0,0]) (z:=part Ba [1,1,1]) (by kernel_rfl) (by kernel_rfl) (by kernel_rfl) (f1:=[]) (f2:=[15]) (f3:=[]) 60 wQ 3
  (fun i:Nat=>EZ c r i) (fun i=>Em c x w i) (fun i=>i≤c.m) (fun i=>i=c.m) (fun i=>c.m-i) (fun _=>⟨⟨_,Uk,?_⟩,fun i hi=>⟨_,afL,?_⟩,fun i hi=>⟨_,TN,?_⟩⟩) K []
 ·simp only[aa.all,ax]
  exact⟨by omega,by omega,0,Nat.zero_le _,[(0,4096),(1,28672)],rfl,rfl,rfl,nT rfl (by omega) (by omega) (aF rfl rfl (kP ⟨⟨rfl,aK rfl⟩,⟨rfl,aK rfl⟩,⟨rfl,oW (by omega)⟩,trivial⟩) (aF rfl rfl (aE rfl rfl) trivial))⟩
 ·set_option maxRecDepth 10000 in simp only[aa.all,ax,decide_eq_true_eq,decide_eq_false_iff_not,Int.toNat_natCast,Nat.add_zero]
  refine⟨fun h=>⟨by omega,by omega,by omega,i+1,by omega,by dsimp only;omega,[(0,0),(1,1),(2,40963)],rfl,rfl,rfl,bB rfl rfl rfl (fun j hj=>EY (g:=fun j=>cP (b9 (c.f j)) w) (fun _ _=>⟨rfl,rfl⟩) rfl (cB ⟨bG rfl h1,bG rfl h1,bG rfl h1,bG (Rat.add_zero _) (by omega),trivial⟩) hj) (aF rfl rfl (tJ rfl rfl rfl) (aF rfl rfl (aE rfl rfl) trivial))⟩,
   fun h=>⟨rfl,i,by omega,[(0,0),(1,1),(2,2)],rfl,rfl,rfl,bB rfl rfl rfl (fun _ _=>aE rfl rfl) (aF rfl rfl (tJ rfl rfl rfl) (aF rfl rfl (aE rfl rfl) trivial))⟩⟩
 ·subst hi
  simp only[aa.all,ax]
  exact⟨by omega,by omega,.refl _⟩
theorem VW {c:Cu} {r:Nat}:ji T qu .ret ⟨aB [4,5,2,6] [.ptr 8192 0 12 0 [],.int .i64 7,.ptr 0 0 3 0 [],.ptr 16384 0 12 0 []],[(16384,⟨false,true,12,1,fun _=>.agg [.rat 0 1,.rat 0 1,.rat 0 1,.rat 0 1]⟩),(0,pq c r),(8192,⟨false,true,12,1,fun j=>if(j==0)=true then aT (.agg (AV.kids (.agg [.rat 0 1,.rat 0 1,.rat 0 1,.rat 0 1])))else .agg [.rat 0 1,.rat 0 1,.rat 0 1,.rat 0 1]⟩)],16385⟩=
  let c1:AV:=rat 0 1;some (ag [(0:Nat)<1] (leaf ret [agg [c1,c1,c1,c1],int i64 (7:Int)])):=by kernel_rfl
def nH (c:Cu) (t:Rat):Pl:=if dM c.n c.k t then⟨⟨0,0,0⟩,0⟩else Mg c.f (vB c.k (bz c.n c.k t) t c.p.toNat) (bz c.n c.k t-c.p.toNat) (c.p.toNat+1)
theorem aeQ {c:Cu} {t:Rat} {r s:Nat} (hr:1+7*(sV+r+1)≤s) (hs:s<2^40) (hk:Kn c.n c.p.toNat c.k) (h0:0≤c.p) (h6:c.p≤6) (hn:c.n<2^40) (hm2:(c.m:Int)=(c.n:Int)-c.p-1) (K:Nat):aA P wH K [dQ c sK r,.rat t sK] [] (aG (.tuple [cP (nH c t) s,.int .i64 (eU c.n c.k t)]) []):=by
 refine gk (r:=aG (.tuple [cP (nH c t) s,.int .i64 (eU c.n c.k t)]) []) hT Lg rfl (of_decide_eq_true (by kernel_rfl)) rfl (fun _ cx h00=>?_) K []
 have hkp:=nP h00
 obtain⟨q,hq⟩:∃q,q=c.p.toNat:=⟨_,rfl⟩
 have hq2:c.p=(q:Int):=by omega
 obtain⟨i,hi⟩:∃i,i=bz c.n c.k t:=⟨_,rfl⟩
 obtain⟨x,hx⟩:∃x,x=vB c.k i t q:=⟨_,rfl⟩
 have h1:sK=4096:=rfl
 have h2:sV=268435456:=rfl
 have z0:1+0*(sV+r+1)=1:=by omega
 have zle:∀j,j≤7→1+j*(sV+r+1)≤s:=fun j hj=>by
  have:=Nat.mul_le_mul_right (sV+r+1) hj
  omega
 refine aq.jE hT OW hm (x:=uO) [1,1,1,1,0,1] (i:=0) (y:=part uO [1,1,1,1,0,1,0,0]) (z:=part uO [1,1,1,1,1]) (by kernel_rfl) (by kernel_rfl) (by kernel_rfl) Lg.dst hkp (f1:=[25,34]) (f2:=[39]) 60 yW 3 (fun j:Nat=>BT q i x j) (fun j=>[(2,lz (Mg c.f x (i-q) j) (1+j*(sV+r+1))),(1,lz ⟨⟨0,0,0⟩,0⟩ 1),(0,pq c r)])
  (fun j=>j≤q+1∧¬dM c.n c.k t) (fun j=>j=q+1∧¬dM c.n c.k t) (fun j=>q+1-j) (q9 T qu [4,5,2,6] (.tuple [cP (nH c t) s,.int .i64 (eU c.n c.k t)])) ⟨_,Ze,?_⟩ (fun j ⟨hj,hin⟩=>⟨_,afY,?_⟩) (fun j ⟨hj,hin⟩=>?_) (fun v s' hv hs'=>hv.fin (L1:=[7,36,37,38]) hkp hs')
 ·simp only[aa.all,ax,A3,bne_iff_ne,ne_eq,bne_eq_false_iff_eq]
  have hko:dM c.n (fun i=>c.k i) t=dM c.n c.k t:=rfl
  have hkE:eU c.n (fun i=>c.k i) t=eU c.n c.k t:=rfl
  have hkI:bz c.n (fun i=>c.k i) t=bz c.n c.k t:=rfl
  simp only[hko,hkE,hkI]
  refine⟨⟨by omega,by omega,by omega,ct (Nat.le_refl _),Nat.le_refl _,hk,h0,h6,hn⟩,fun hout=>⟨hout,fun _=>⟨by omega,?_⟩,fun h=>absurd h (by decide)⟩,fun he=>?_⟩
  ·have ho:=L8 hout
   refine⟨[_,_,_,_],_,16385,_,rfl,rfl,rfl,VW,rfl,⟨⟨by omega,fun i _=>rfl⟩,⟨by omega,fun i _=>rfl⟩,⟨by omega,fun i _=>oD rfl rfl⟩,trivial⟩,Nat.zero_lt_one,?_⟩
   exact⟨B3 (h:=⟨⟨0,0,0⟩,0⟩) (by unfold nH;rw[if_pos ho]) (by omega),bt (by unfold eU;rw[if_pos ho]),trivial⟩
  ·have hin:=LP he
   have hiv:=hk.HH hin
   simp only[if_neg hin]
   refine⟨⟨he,by omega,by omega⟩,fun h=>?_,fun _=>⟨0,⟨Nat.zero_le _,hin⟩,[(0,0),(1,8192),(2,16384)],rfl,?_,rfl,aF rfl rfl (aE rfl (by rw[z0];rfl)) (aF rfl rfl (aE rfl rfl) (aF rfl rfl (aE rfl rfl) trivial))⟩⟩
   ·exfalso
    rw[cond_false,decide_eq_true_eq]at h
    omega
   ·show _=(BT q i x 0).map _
    rw[hx,hq,hi];rfl
 ·have hiv:=hk.HH hin
  rw[←hi,←hq]at hiv
  simp only[aa.all,ax,decide_eq_true_eq,decide_eq_false_iff_not,show((i:Int)-q+j).toNat=i-q+j by omega,Int.toNat_natCast]
  refine⟨fun h=>?_,fun h=>⟨rfl,j,⟨by omega,hin⟩,[(0,0),(1,1),(2,2)],rfl,rfl,rfl,aF rfl rfl (aE rfl rfl) (aF rfl rfl (aE rfl rfl) (aF rfl rfl (aE rfl rfl) trivial))⟩⟩
  have hz:=zle j (by omega)
  have hzS:1+(j+1)*(sV+r+1)=1+j*(sV+r+1)+(sV+r+1):=by rw[Nat.add_mul,Nat.one_mul];omega
  have hz2:=zle (j+1) (by omega)
  generalize 1+j*(sV+r+1)=zj at*
  (repeat' with_reducible refine And.intro ?_ ?_)
  all_goals first|omega|skip
  exact⟨j+1,⟨by omega,hin⟩,by dsimp only;omega,[(0,0),(1,1),(2,2)],rfl,rfl,rfl,aF rfl rfl (.inr ⟨rfl,cB ⟨bG rfl (by omega),bG rfl (by omega),bG rfl (by omega),bG rfl (by omega),trivial⟩⟩) (aF rfl rfl (aE rfl rfl) (aF rfl rfl (aE rfl rfl) trivial))⟩
 ·subst hj
  refine aq.jK ((aD.fin hT OW hm 60 aeu (by kernel_rfl) ?_).mono fun _ _ h=>.inl h)
  simp only[aa.all,ax]
  have hz:=zle (q+1) (by omega)
  refine⟨by omega,by omega,?_,bt (by unfold eU;rw[if_neg hin]),trivial⟩
  exact B3 (by unfold nH;rw[if_neg hin,←hi,←hq,←hx]) hz
def tw (s r:Nat):Kind Cu:=⟨fun v=>match v with
 |.agg [p,k,f]=>match kI.read p,(kL s).read k,r6 f with
  |some (p,q1),some ((n,k),q2),some (m,f)=>some (⟨p,n,k,m,fun i=>qW (f i)⟩,q1++(q2++[jF f m r]))
  |_,_,_=>none
 |_=>none,fun a=>dQ a s r,fun {v a q} h hq=>by
  split at h
  ·split at h
   ·rename_i h1 h2 h3
    simp only[Option.some.injEq,Prod.mk.injEq]at h
    obtain⟨rfl,rfl⟩:=h
    obtain⟨q1,hq⟩:=er.1 hq
    obtain⟨q2,q3⟩:=er.1 hq
    exact cB ⟨kI.ok h1 q1,(kL s).ok h2 q2,ag3 h3 q3,trivial⟩
   ·simp at h
  ·simp at h⟩
def Iq:Spec:=cD (kC (ij sJ sJ) kN) (fun a=>dQ ⟨a.1.p,a.1.n,a.1.k,a.1.m,fun i=>b9 (a.1.f i)⟩ sJ (sJ+sJ)) fun a=>[a.1.n<2^40,a.1.m<2^30]
def L6:Spec:=cD (kC (tw sK (sJ+sJ)) (kC (fq sK) kN)) (fun a=>.tuple [cP (nH a.1 a.2.1) sH,.int .i64 (eU a.1.n a.1.k a.2.1)]) fun a=>[Kn a.1.n a.1.p.toNat a.1.k,0≤a.1.p,a.1.p≤6,a.1.n<2^40,(a.1.m:Int)=(a.1.n:Int)-a.1.p-1]
def KO:Spec:=cD (kC (F7 sH) kN) (fun a=>bI (dZ a.1) sE) fun _=>[]
def dU (c:Cu):Prop:=Kn c.n c.p.toNat c.k∧1≤c.p∧c.p≤6∧c.n≤c.p.toNat+41∧(c.m:Int)=(c.n:Int)-c.p-1
noncomputable def Pw:aS:=nG::(sC,GI)::(qS,pU)::[]
def FU:Spec:=cD (kC (ij sJ sJ) kN) (fun _=>.bool true) fun a=>[dU a.1]
noncomputable def P9:aS:=nG::(xD,FU)::(mY,Iq)::(wH,L6)::(rQ,KO)::[]
theorem ajC {c:Cu}:bC T Pw [100009] 60 yI (au yI) ⟨aN 0 [bh c sJ sJ],[],0⟩=
  let c2:Prop:=c.n<2^40;let c1:Prop:=0<1;some (ag [c1,c1,bK (fun i↦rat (c.k i) sJ) c.n sJ,c2,(fZ c.n (fun i↦aO (rat (c.k i) sJ)) c.p==(0:Int))=true,c1,c1,c1,bK (fun i↦rat (c.k i) sJ) c.n sK,c2,-(2:Int)^40<c.p,c.p<(2:Int)^40] (leaf ret [AV.bool (bif true then(↑c.m:Int)==(↑c.n:Int)-c.p-(1:Int)else false)])):=by kernel_rfl
theorem afd {c:Cu} {t:Rat}:bC T P9 [20] 60 zh (au zh) ⟨aN 0 [bh c sJ sJ,.rat t sK],[],0⟩=
  let c7 : Prop := c.n < 2 ^ 40; let c6 : Prop := fj (fun i ↦ bI (c.f i) sJ) c.m sJ; let c5 : Prop := bK (fun i ↦ rat (c.k i) sJ) c.n sJ; let c4 : AV := rat 0 1; let c3 : Int := eU c.n (fun i ↦ aO (rat (aO (rat (c.k i) sJ)) sJ)) t; let c2 : Prop := 0 < 1; let c1 : Pl := nH (Cu.mk c.p c.n (fun i ↦ aO (rat (aO (rat (c.k i) sJ)) sJ)) c.m fun i ↦ qW (cP (b9 (fI (bI (c.f i) sJ))) (sJ + sJ))) t; some (ag [c2, c5, c6, dU (Cu.mk c.p c.n (fun i ↦ aO (rat (c.k i) sJ)) c.m fun i ↦ fI (bI (c.f i) sJ))] (ag [c2, c5, c6, c7, c.m < 2 ^ 30, c2, bK (fun i ↦ rat (aO (rat (c.k i) sJ)) sJ) c.n sK, jF (fun i ↦ cP (b9 (fI (bI (c.f i) sJ))) (sJ + sJ)) c.m (sJ + sJ), sK ≤ sK, Kn c.n c.p.toNat fun i ↦ aO (rat (aO (rat (c.k i) sJ)) sJ), (0 : Int) ≤ c.p, c.p ≤ (6 : Int), c7, (↑c.m : Int) = (↑c.n : Int) - c.p - (1 : Int), c2] (fork (c3 != (0 : Int)) (ag [c2] (ag [c2] (leaf ret [agg [c4, c4, c4], int i64 c3]))) (ag [c2, sH ≤ sH, sH ≤ sH, sH ≤ sH, sH ≤ sH, c2] (ag [c2] (leaf ret [agg [rat (c1.n.x / c1.d) 4294967298, rat (c1.n.y / c1.d) 4294967298, rat (c1.n.z / c1.d) 4294967298], int i64 (0 : Int)])))))) := by kernel_rfl
theorem Nx:∀K args pre r,Iq K args pre=some r→aA P mY K args pre r:=cj fun⟨c,_⟩ K hn=>P5 (Nat.le_refl _) (by decide) (by decide) hn.1 hn.2 K
theorem RS:∀K args pre r,L6 K args pre=some r→aA P wH K args pre r:=cj fun⟨c,t,_⟩ K hn=>aeQ (by decide) (by decide) hn.1 hn.2.1 hn.2.2.1 hn.2.2.2.1 hn.2.2.2.2 K
theorem Vo:∀K args pre r,KO K args pre=some r→aA P rQ K args pre r:=cj fun⟨h,_⟩ K _=>Ka (by decide) (by decide) (by decide) K
theorem abA:aW P Pw:=cL (aH Nl (aH Dg bp))
theorem IV:∀K args pre r,FU K args pre=some r→aA P xD K args pre r:=cj fun⟨c,_⟩ K hn=>by
 obtain⟨h1,h2,h3,h4,h5⟩:dU c:=hn
 refine bJ (r:=aG (.bool true) []) hT abA hm adG rfl (of_decide_eq_true (by kernel_rfl)) rfl 60 ajC (fun _=>?_) K []
 have hc0:fZ c.n c.k c.p=0:=by have:=h1.IW (by omega) h4;rwa [Int.toNat_of_nonneg (by omega)]at this
 simp only[aa.all,ax]
 exact⟨⟨by omega,by omega,ct (Nat.le_refl _),by omega,beq_iff_eq.2 hc0,by omega,by omega,by omega,ct (by decide),by omega,by omega,by omega⟩,eP (beq_iff_eq.2 h5)⟩
theorem acW:aW P P9:=cL (aH IV (aH Nx (aH RS (aH Vo bp))))
theorem div_one {a b:Rat}:a/b=((1:Int):Rat)/b*a:=by
 rw[Rat.div_def,Rat.div_def,show((1:Int):Rat)=1 from rfl,Rat.one_mul,Rat.mul_comm]
theorem OQ {h:Pl}:(dZ h).n=oB h:=by
 show V3.mk (h.n.x/h.d) (h.n.y/h.d) (h.n.z/h.d)=V3.mk _ _ _
 rw[div_one (a:=h.n.x),div_one (a:=h.n.y),div_one (a:=h.n.z)]
def Mo:Spec:=cD (kC (ij sJ sJ) (kC (fq sK) kN)) (fun a=>.tuple [vA (Dm a.1 a.2.1) sE,.int .i64 (eU a.1.n a.1.k a.2.1)]) fun a=>[dU a.1]
theorem Tg:∀K args pre r,Mo K args pre=some r→aA P Da K args pre r:=cj fun⟨c,t,_⟩ K hn=>by
 have hc:dU c:=hn
 obtain⟨h1,h2,h3,h4,h5⟩:=id hc
 refine bJ (r:=aG (.tuple [vA (Dm c t) sE,.int .i64 (eU c.n c.k t)]) []) hT acW hm U7 rfl (of_decide_eq_true (by kernel_rfl)) rfl 60 afd (fun _=>?_) K []
 have e1:eU c.n (fun i=>aO (rat (aO (rat (c.k i) sJ)) sJ)) t=eU c.n c.k t:=rfl
 simp only[aa.all,ax,e1,bne_iff_ne,ne_eq,bne_eq_false_iff_eq]
 refine⟨⟨by omega,ct (Nat.le_refl _),gU (Nat.le_refl _),hc⟩,⟨by omega,ct (Nat.le_refl _),gU (Nat.le_refl _),by omega,by omega,by omega,ct (by decide),fun _ _=>.refl _,Nat.le_refl _,h1,by omega,h3,by omega,h5,by omega⟩,fun hout=>⟨by omega,by omega,?_⟩,fun hin=>⟨⟨by omega,Nat.le_refl _,Nat.le_refl _,Nat.le_refl _,Nat.le_refl _,by omega⟩,by omega,?_⟩⟩
 ·refine⟨Di (u:=⟨0,0,0⟩) (by unfold Dm;rw[if_pos (L8 hout)]) (by decide),.refl _,trivial⟩
 ·have ho:=LP hin
  refine⟨Di (u:=(dZ (nH ⟨c.p,c.n,c.k,c.m,fun i=>b9 (c.f i)⟩ t)).n) ?_ (by decide),bt hin.symm,trivial⟩
  rw[OQ]
  unfold Dm nH
  rw[if_neg ho,if_neg ho];rfl
end Go.Am.B

/- ref09.Sum; contracts of sums. -/
namespace Go.Am.B
open Go Go.Am.N AV aa ak IntKind
end Go.Am.B

/- basis.Blossom. -/
namespace Go.Am.B
open Go Go.Am.N AV aa ak IntKind
theorem Js:aP P Dj ke (au ke):=aQ TD (by kernel_rfl) (by kernel_rfl) (by kernel_rfl)
def qP:aS:=nG::(qS,pU)::(x5,HK)::gb
noncomputable abbrev CF:Code:=au ke
noncomputable abbrev rT:Code:=part CF [1,1,1,1,0,1,0,0]
noncomputable abbrev xe:Code:=part rT [1,1,0,0]
abbrev sB:Nat:=536870912
theorem zm:aW P qP:=cL (aH Dg (aH Ku gY))
def gH (n:Nat) (k:Nat→Rat) (p m l:Nat) (i:Int):Int:=if(m:Int)≠(n:Int)-p-1∨l≠p then 1 else if i<p∨(m:Int)≤i∨k (i.toNat+1)≤k i.toNat then 7 else 0
def kV (n:Nat) (k:Nat→Rat) (p m:Nat) (c:Nat→Rat) (i:Int) (l:Nat) (a:Nat→Rat):Rat:=if gH n k p m l i=0 then bR k (i.toNat-p) p a (fun j=>c (i.toNat-p+j)) p p else 0
abbrev JL (n:Nat) (k:Nat→Rat) (p m:Nat) (c:Nat→Rat) (i:Int) (l:Nat) (a:Nat→Rat):AV:=.tuple [.rat (kV n k p m c i l a) sB,.int .i64 (gH n k p m l i)]
theorem WQ {n p m l:Nat} {k c a:Nat→Rat} {i e:Int} (h:gH n k p m l i=e) (he:e≠0):dI [.agg [.bool false,.mag 0,.mag 0],.int .i64 e] (JL n k p m c i l a):=
 ⟨by unfold kV;rw[if_neg (by rw[h];exact he)];exact lf,bt h.symm,trivial⟩
theorem O4 {n p m l:Nat} {k:Nat→Rat} {i:Int} (h:(m:Int)≠(n:Int)-p-1∨l≠p):gH n k p m l i=1:=if_pos h
theorem Ek {n p m l:Nat} {k:Nat→Rat} {i:Int} (h:(m:Int)=(n:Int)-p-1) (hl:l=p) (h2:i<p∨(m:Int)≤i∨k (i.toNat+1)≤k i.toNat):gH n k p m l i=7:=by
 unfold gH;rw[if_neg (by omega),if_pos h2]
theorem E3 {n p m l:Nat} {k:Nat→Rat} {i:Int} (h:(m:Int)=(n:Int)-p-1) (hl:l=p) (h2:¬(i<p∨(m:Int)≤i∨k (i.toNat+1)≤k i.toNat)):gH n k p m l i=0:=by
 unfold gH;rw[if_neg (by omega),if_neg h2]
def lJ (k:Nat→Rat) (b p r:Nat) (t:Rat) (x:Nat→Rat) (j i:Nat):Rat:=if i≤j then x i else gn k b p r t x i
def mm (r j i:Nat):Nat:=if i≤j then SB r else SB (r+1)
theorem aez {rl:List (Nat×Nat)} {k:Nat→Rat} {b p r j i s:Nat} {t:Rat} {x:Nat→Rat} (hj:r<j) (hs:s≤SB (r+1)):
  fz rl (.rat (bif i==j then lJ k b p r t x j (j-1)+fr (k (b+j)) (k (b+j+(p-r))) t*(lJ k b p r t x j j-lJ k b p r t x j (j-1))else lJ k b p r t x j i) (bif i==j then s else mm r j i)) (.rat (lJ k b p r t x (j-1) i) (mm r (j-1) i)):=by
 refine .inr ⟨rfl,?_⟩
 by_cases h:i=j
 ·subst h
  simp only[beq_self_eq_true,cond_true]
  refine bG ?_ ?_
  ·unfold lJ
   rw[if_pos (by omega),if_pos (by omega),if_neg (by omega)]
   unfold gn
   rw[if_pos hj]
  ·unfold mm
   rw[if_neg (by omega)];exact hs
 ·have hb:(i==j)=false:=by simpa using h
  rw[hb]
  refine bG ?_ ?_
  ·simp only[cond_false]
   unfold lJ
   by_cases h2:i≤j
   ·rw[if_pos h2,if_pos (by omega)]
   ·rw[if_neg h2,if_neg (by omega)]
  ·simp only[cond_false]
   unfold mm
   by_cases h2:i≤j
   ·rw[if_pos h2,if_pos (by omega)];exact Nat.le_refl _
   ·rw[if_neg h2,if_neg (by omega)];exact Nat.le_refl _
theorem abD {k:Nat→Rat} {b p r i:Nat} {t:Rat} {x:Nat→Rat}:lJ k b p r t x r i=gn k b p r t x i:=by
 unfold lJ
 split
 ·unfold gn;rw[if_neg (by omega)]
 ·rfl
end Go.Am.B

/- ref09.Polar, ref09.Blossom; contracts of polar forms. -/
namespace Go.Am.B
open Go Go.Am.N AV aa ak IntKind
def DS:aS:=nG::(r9,ic kR kR E7 nI)::o7
theorem abw:aW P DS:=cL (aH (iF fun _ _ K hn=>Hx hn.1 hn.2 K) qJ)
end Go.Am.B

/- basis.Blossom, handed coefficients that may still be written to. -/
namespace Go.Am.B
open Go Go.Am.N AV aa ak IntKind
abbrev jI (m:Nat) (c:Nat→Rat):ah:=⟨true,true,3,m,fun i=>.rat (c i) sK⟩
abbrev nV:List Nat:=[10,11,2,4,0,1,3,12,66,67,68]
abbrev sX (n:Nat) (k:Nat→Rat) (p m:Nat) (a:Nat→Rat) (i:Nat) (r:Nat):List AV:=[.ptr 1 0 3 0 [],.int .i64 0,.own 0 3 0 m,ls a p,ls k n,.int .i64 p,.int .i64 i,.own 2 3 0 (p+1),ls a p,.int .i64 p,.int .i64 r]
abbrev mG (p m:Nat) (c:Nat→Rat) (x:Nat→Rat) (s:Nat→Nat):aC:=[(2,jJ (p+1) x s),(1,zO),(0,jI m c)]
abbrev ym:List Nat:=[10,11,2,4,0,1,3,12,66,67,68,13,14,15]
abbrev Ho (n:Nat) (k:Nat→Rat) (p m:Nat) (a:Nat→Rat) (i:Nat) (r j:Nat):List AV:=[.ptr 1 0 3 0 [],.int .i64 0,.own 0 3 0 m,ls a p,ls k n,.int .i64 p,.int .i64 i,.own 2 3 0 (p+1),ls a p,.int .i64 p,.int .i64 r,.int .i64 r,.ptr 3 0 3 0 [],.int .i64 j]
theorem XK {n m p l:Nat} {k c a:Nat→Rat} {i:Int}:aJ T qP [18,25,36,42,32] 60 nV (before CF [1,1,1,1,0,1]) ⟨aN 0 [ls k n,.int .i64 p,.own 0 3 0 m,.int .i64 i,ls a l],[(0,jI m c)],1⟩=
  let c28 : Prop := n < 2 ^ 40; let c27 : Prop := sK < 2 ^ 42; let c26 : Prop := bK (fun i ↦ rat (k i) sK) n sK; let c25 : AV := own 0 3 0 m; let c24 : Int := i + (1 : Int); let c23 : AV := aj 3 n fun i ↦ rat (k i) 4096; let c20 : Int := (2 : Int) ^ 40; let c19 : AV := rat 0 1; let c17 : Nat × ah := ((0 : Nat), ah.mk true true 3 m fun i ↦ rat (c i) 4096); let c15 : AV := ptr 1 0 3 0 []; let c14 : AV := aj 3 l fun i ↦ rat (a i) 4096; let c13 : Int := (2 : Int) ^ 63; let c12 : Int := (↑m : Int); let c5 : Int := (↑p : Int); let c21 : Bool := decide (i < c5); let c18 : Bool := c12 != (↑n : Int) - c5 - (1 : Int); let c16 : Bool := bif false then true else decide (i ≥ c12); let c11 : Int := c5 + (1 : Int); let c10 : Int := dc (k i.toNat) (k c24.toNat); let c8 : List AV := [c25, c14, c23, int i64 c5, int i64 i, tuple [], tuple [], tuple [], tuple []]; let c7 : List Prop := [(0 : Int) ≤ i ∧ i.toNat < n, -c13 ≤ c24 ∧ c24 < c13, (0 : Int) ≤ c24 ∧ c24.toNat < n, c27, c27]; let c6 : List (Nat × ah) := [c17, ((1 : Nat), ah.mk false true 3 1 fun j ↦ if (j == 0) = true then aT (agg c19.kids) else c19)]; let c22 : Bool := bif false then true else decide (c10 ≥ (0 : Int)); let c9 : Nat := 0 + Min.min (c12.toNat - (i - c5).toNat) c11.toNat; let c4 : aa (List AV × aC) := ag [(0 : Nat) < 1] (leaf ret (c15 :: int i64 (1 : Int) :: c8, c6)); let c2 : aa (List AV × aC) := ag [(0 : Nat) < 1] (leaf ret (c15 :: int i64 (7 : Int) :: c8, c6)); let c1 : aa (List AV × aC) := ag [-c13 ≤ c11 ∧ c11 < c13, (0 : Int) ≤ c11 ∧ c11 ≤ c11 ∧ c11 ≤ (2 : Int) ^ 47 ∧ c11 * (↑(56 : Nat) : Int) ≤ (2 : Int) ^ 47] (ag [-c13 ≤ i - c5 ∧ i - c5 < c13, (0 : Int) ≤ i - c5 ∧ i - c5 ≤ c12 ∧ c12 ≤ c12 ∧ c12 ≤ c12] (leaf normal ([c15, int i64 (0 : Int), c25, c14, c23, int i64 c5, int i64 i, own 163841 3 0 c11.toNat, c14, int i64 (↑l : Int), int i64 (0 : Int)], [((163841 : Nat), ah.mk true true 3 c11.toNat fun i_1 ↦ if 0 ≤ i_1 ∧ i_1 < c9 then rat (c (i_1 - 0 + ((0 : Nat) + (i - c5).toNat))) sK else c19), c17, ((1 : Nat), ah.mk false true 3 1 fun x ↦ c19)]))); let c3 : aa (List AV × aC) := fork c21 (fork true (ag [c21 = true, true = true] (fork true c2 c1)) (ag ((c21 = true) :: (true = false) :: c7) (fork c22 c2 c1))) (fork c16 (ag [c21 = false, c16 = true] (fork true c2 c1)) (ag ((c21 = false) :: (c16 = false) :: c7) (fork c22 c2 c1))); some (fork c18 (ag [c26, c28, -c20 < c5, c5 < c20, c18 = true] (fork true c4 c3)) (ag [c26, c28, -c20 < c5, c5 < c20, c18 = false] (fork (bif false then true else (↑l : Int) != c5) c4 c3))) := by kernel_rfl
theorem aaw {e:Int} {m:Nat} {c:Nat→Rat}:Aw T ke .ret ⟨aB [10,11,2] [.ptr 1 0 3 0 [],.int .i64 e,.own 0 3 0 m],[(0,jI m c),(1,⟨false,true,3,1,fun j=>if(j==0)=true then aT (agg (kids (.rat 0 1)))else .rat 0 1⟩)],2⟩=
  some (ag [(0:Nat)<1] (leaf ret ([agg [AV.bool false,mag 0,mag 0],int i64 e],some (ah.mk true true 3 m fun i↦rat (c i) 4096)))):=by kernel_rfl
theorem Zv {n p m i r:Nat} {k a c x:Nat→Rat} {s:Nat→Nat}:aJ T qP [69] 60 nV (before rT [1,1,0]) ⟨aB nV (sX n k p m a i r),mG p m c x s,3⟩=
  let c3:Int:=(↑p:Int);let c2:AV:=aj 3 p fun i↦rat (a i) 4096;let c1:List AV×aC:=([ptr 1 0 3 0 [],int i64 (0:Int),own 0 3 0 m,c2,aj 3 n fun i↦rat (k i) 4096,int i64 c3,int i64 (↑i:Int),own 2 3 0 (p+1),c2,int i64 c3,int i64 (↑r:Int)],[((2:Nat),ah.mk true true 3 (p+1) fun i↦rat (x i) (s i)),((0:Nat),ah.mk true true 3 m fun i↦rat (c i) 4096),((1:Nat),ah.mk false true 3 1 fun x↦rat 0 1)]);some (fork (decide ((↑r:Int)<c3)) (leaf normal c1) (leaf (exit 1) c1)):=by kernel_rfl
theorem aj2 {n p m i r:Nat} {k a c x:Nat→Rat} {s:Nat→Nat}:aJ T qP [] 60 ym (before xe [1,1]) ⟨aB nV (sX n k p m a i r),mG p m c x s,3⟩=
  let c4:AV:=rat 0 1;let c3:Int:=(↑r:Int);let c2:AV:=int i64 (↑p:Int);let c1:AV:=aj 3 p fun i↦rat (a i) 4096;some (ag [(0:Int)≤c3∧c3.toNat<p,(0:Nat)<1] (leaf normal ([ptr 1 0 3 0 [],int i64 (0:Int),own 0 3 0 m,c1,aj 3 n fun i↦rat (k i) 4096,c2,int i64 (↑i:Int),own 2 3 0 (p+1),c1,c2,int i64 c3,int i64 c3,ptr 12291 0 3 0 [],c2],[((12291:Nat),ah.mk false true 3 1 fun j↦if(j==0)=true then aT (rat (a c3.toNat) sK)else c4),((2:Nat),ah.mk true true 3 (p+1) fun i↦rat (x i) (s i)),((0:Nat),ah.mk true true 3 m fun i↦rat (c i) 4096),((1:Nat),ah.mk false true 3 1 fun x↦c4)]))):=by kernel_rfl
theorem abg {n p m i r j:Nat} {k a c x:Nat→Rat} {s:Nat→Nat} {t:Rat}:aJ T qP [76] 60 ym [part xe [1,1,0,0]] ⟨aB ym (Ho n k p m a i r j),(3,tP t sK)::mG p m c x s,4⟩=
  let c27:Int:=(↑r:Int);let c23:Int:=(↑i:Int);let c21:AV:=own 0 3 0 m;let c19:Prop:=0<1;let c17:AV:=ptr 3 0 3 0 [];let c16:AV:=ptr 1 0 3 0 [];let c15:AV:=aj 3 n fun i↦rat (k i) 4096;let c13:Int:=(↑p:Int);let c12:Int:=(↑j:Int);let c11:Nat×ah:=((3:Nat),ah.mk false true 3 1 fun x↦rat t 4096);let c10:Nat:=2^42;let c8:Nat:=p+1;let c7:AV:=aj 3 p fun i↦rat (a i) 4096;let c6:List (Nat×ah):=[((0:Nat),ah.mk true true 3 m fun i↦rat (c i) 4096),((1:Nat),ah.mk false true 3 1 fun x↦rat 0 1)];let c3:Int:=(2:Int)^63;let c26:AV:=int i64 c13;let c24:Prop:=(0:Int)≤c12∧c12.toNat<c8;let c20:AV:=own 2 3 0 c8;let c14:AV:=int i64 c27;let c4:Nat:=c12.toNat+0;let c2:Int:=c23-c13+c12;let c1:Int:=c12-(1:Int);let c25:Prop:=(0:Int)≤c1∧c1.toNat<c8;let c22:Prop:=-c3≤c1∧c1<c3;let c9:Int:=c2+c13-c27;let c5:Nat:=c1.toNat+0;let c18:Nat:=s c4+s c5+1;some (fork (decide (c12>c27)) (ag [-c3≤c23-c13∧c23-c13<c3,-c3≤c2∧c2<c3] (ag [(0:Int)≤c2∧c2.toNat<n,-c3≤c2+c13∧c2+c13<c3,-c3≤c9∧c9<c3,(0:Int)≤c9∧c9.toNat<n,c19,sK≤sK,sK≤sK,sK≤sK,c19] (ag [c22,c25,c5<c8,c19,c24,c4<c8,c22,c25,c5<c8,s c4<c10,s c5<c10,sF<c10,c18<c10,s c5<c10,sF+c18<c10,c24,c4<c8] (ag [c22] (leaf normal ([c16,int i64 (0:Int),c21,c7,c15,c26,int i64 c23,c20,c7,c26,c14,c14,c17,int i64 c1],c11::((2:Nat),ah.mk true true 3 c8 fun j↦rat (bif j==c4 then x c5+fr (k c2.toNat) (k c9.toNat) t*(x c4-x c5)else x j) (bif j==c4 then s c5+(sF+c18)+1 else s j))::c6)))))) (leaf (exit 3) ([c16,int i64 (0:Int),c21,c7,c15,c26,int i64 c23,c20,c7,c26,c14,c14,c17,int i64 c12],c11::((2:Nat),ah.mk true true 3 c8 fun i↦rat (x i) (s i))::c6))):=by kernel_rfl
theorem ag1 {n p m i r j:Nat} {k a c x:Nat→Rat} {s:Nat→Nat} {t:Rat}:aJ T qP [] 60 nV [part rT [1,1,1]] ⟨aB ym (Ho n k p m a i r j),(3,tP t sK)::mG p m c x s,4⟩=
  let c2:Int:=(↑r:Int)+(1:Int);let c1:AV:=aj 3 p fun i↦rat (a i) 4096;some (ag [-(2:Int)^63≤c2∧c2<(2:Int)^63] (leaf normal ([ptr 1 0 3 0 [],int i64 (0:Int),own 0 3 0 m,c1,aj 3 n fun i↦rat (k i) 4096,int i64 (↑p:Int),int i64 (↑i:Int),own 2 3 0 (p+1),c1,int i64 (↑p:Int),int i64 c2],[((2:Nat),ah.mk true true 3 (p+1) fun i↦rat (x i) (s i)),((0:Nat),ah.mk true true 3 m fun i↦rat (c i) 4096),((1:Nat),ah.mk false true 3 1 fun x↦rat 0 1)]))):=by kernel_rfl
theorem Su {n p m i r:Nat} {k a c x:Nat→Rat} {s:Nat→Nat}:HS T qP [] 60 ke [part CF [1,1,1,1,1]] ⟨aB nV (sX n k p m a i r),mG p m c x s,3⟩=
  let c1:Nat:=(↑p:Int).toNat+0;some (ag [(0:Int)≤(↑p:Int)∧(↑p:Int).toNat<p+1,c1<p+1,s c1<2^42,(1:Nat)<2^42,(0:Nat)<1] (ag [(0:Nat)<1] (leaf ret ([rat (x c1+0) (s c1+1+1),int i64 (0:Int)],some (ah.mk true true 3 m fun i↦rat (c i) 4096))))):=by kernel_rfl
theorem ah4 {n p m l:Nat} {k c a:Nat→Rat} {i:Int} (hp1:1≤p) (hp6:p≤6) (hn:n<2^40) (hm2:m<2^40) (hi:-2^40<i) (hi2:i<2^40) (cx:Ctx) (hk:Kept [0] cx):
  aq P cx ke.ntmps (au ke) ⟨aN 0 [ls k n,.int .i64 p,.own 0 3 0 m,.int .i64 i,ls a l],[(0,jI m c)],1⟩ (de cx (AX T ke [.rat (kV n k p m c i l a) sB,.int .i64 (gH n k p m l i)] (jI m c))):=by
 obtain⟨b,hb⟩:∃b,b=i.toNat-p:=⟨_,rfl⟩
 obtain⟨x,hx⟩:∃x:Nat→Nat→Rat,x=fun r=>bR k b p a (fun j=>c (b+j)) r:=⟨_,rfl⟩
 have hx0:x 0=fun j=>c (b+j):=by rw[hx];rfl
 have hxS:∀r,x (r+1)=gn k b p r (a r) (x r):=fun r=>by rw[hx];rfl
 have hSF:=BE
 have hSK:sK=4096:=rfl
 have hSV:sV=268435456:=rfl
 have hrow:∀(l:Nat) (a:Nat→Rat) (w:Bool) (ρ:Nat→Option Nat),cJ ρ ⟨true,w,3,l,fun i=>.rat (a i) sK⟩ ⟨true,w,3,l,fun i=>.rat (a i) sK⟩:=fun l a w ρ=>je rfl fun _ _=>aK rfl
 refine aq.DY hT zm hm [1,1,1,1,0,1] (i:=1) (y:=rT) (z:=part CF [1,1,1,1,1]) (by kernel_rfl) (by kernel_rfl) (by kernel_rfl) Js.dst hk (f1:=[18,25,36,42,32]) 60 nV 3 (fun r:Nat=>sX n k p m a i.toNat r) (fun r=>mG p m c (x r) fun _=>SB r)
  (fun r=>r≤p∧gH n k p m l i=0) (fun r=>r=p∧gH n k p m l i=0) (fun r=>p-r) (Dn T ke [10,11,2] [.rat (kV n k p m c i l a) sB,.int .i64 (gH n k p m l i)] (jI m c)) ⟨_,XK,?_⟩ (fun r ⟨hr,he⟩=>?_) (fun r ⟨hr,he⟩=>?_) (fun v s' hv hs'=>hv.fin (L1:=[4,0,1,3,12,66,67,68]) hk hs')
 ·simp only[aa.all,ax,A3,bne_iff_ne,ne_eq,bne_eq_false_iff_eq,Int.toNat_natCast,cond_false,decide_eq_true_eq,decide_eq_false_iff_not,w7]
  have ret:∀{e:Int} {us:List AV},gH n k p m l i=e→e≠0→bf us=[]→Dn T ke [10,11,2] [.rat (kV n k p m c i l a) sB,.int .i64 (gH n k p m l i)] (jI m c) ([ptr 1 0 3 0 [],int i64 e,own 0 3 0 m]++us,[((0:Nat),jI m c),((1:Nat),ah.mk false true 3 1 fun j↦if(j==0)=true then aT (agg (kids (.rat 0 1)))else .rat 0 1)]):=fun {e us} h1 h2 h3=>
   ⟨[_,_,_],us,2,_,rfl,rfl,h3,aaw,rfl,⟨⟨by omega,fun i _=>rfl⟩,⟨by omega,fun i _=>oD rfl rfl⟩,trivial⟩,by omega,Nat.zero_lt_one,rfl,rfl,WQ h1 h2,⟨_,rfl,hrow _ _ _⟩⟩
  (repeat' with_reducible first|refine And.intro ?_ ?_|intro _)
  all_goals first|omega|exact ct (Nat.le_refl _)|exact absurd ‹true=false› (by decide)|assumption|skip
  all_goals first|exact ret (O4 (.inl ‹_›)) (by decide) rfl|exact ret (O4 (.inr (by omega))) (by decide) rfl|skip
  all_goals first|exact ret (Ek (by omega) (by omega) (.inl (by omega))) (by decide) rfl|exact ret (Ek (by omega) (by omega) (.inr (.inl (by omega)))) (by decide) rfl|skip
  all_goals have e1:(i+1).toNat=i.toNat+1:=by omega
  ·exact ret (Ek (by omega) (by omega) (.inr (.inr (by rw[←e1];assumption)))) (by decide) rfl
  ·rename_i h1
   rw[e1]at h1
   have hlp:l=p:=by omega
   subst hlp
   refine⟨0,⟨by omega,E3 (by omega) rfl (by rintro(h|h|h)<;>first|omega|exact h1 h)⟩,[(0,0),(1,1),(2,163841)],rfl,?_,rfl,bB rfl rfl (by omega) (fun j hj=>?_) (aF rfl rfl (aE rfl rfl) (bB rfl rfl rfl (fun j hj=>aE rfl rfl) trivial))⟩
   ·rw[show((l:Int)+1).toNat=l+1 by omega]
    show _=[_,_,_,_,_,_,AV.int i64 ((i.toNat:Nat):Int),_,_,_,_]
    rw[show((i.toNat:Nat):Int)=i by omega]
    rfl
   ·rw[if_pos (by omega),hx0,show(i-(l:Int)).toNat=b by omega,Nat.sub_zero,Nat.zero_add,Nat.add_comm j b]
    exact .inr ⟨rfl,bG rfl (show sK≤SB 0 by decide)⟩
 ·have hin:(m:Int)=(n:Int)-p-1∧p≤i.toNat∧i.toNat<m∧i.toNat=b+p∧l=p:=by
   unfold gH at he
   split at he
   ·omega
   ·split at he
    ·omega
    ·omega
  obtain⟨i1,i2,i3,i4,i5⟩:=hin
  subst i5
  have hr4:∀{s:Nat→Nat} {y:Nat→Rat},jm 3 [(0,0),(1,1),(2,2)] [((2:Nat),ah.mk true true 3 (l+1) fun i↦rat (y i) (s i)),((0:Nat),jI m c),((1:Nat),ah.mk false true 3 1 fun x↦rat 0 1)] (mG l m c y s):=bB rfl rfl rfl (fun j hj=>aE rfl rfl) (aF rfl rfl (aE rfl rfl) (bB rfl rfl rfl (fun j hj=>aE rfl rfl) trivial))
  refine aq.uI hT zm hm (y:=rT) (x1:=xe) (zb:=part rT [1,1,1]) [1,1,0] (j:=2) (by kernel_rfl) (by kernel_rfl) (by kernel_rfl) (by kernel_rfl) hk (f1:=[69]) 60 nV 3 (fun _:Unit=>sX n k l m a i.toNat r) (fun _=>mG l m c (x r) fun _=>SB r) (fun _=>r<l) ⟨_,Zv,?_⟩ (fun _ hr'=>?_)
  ·simp only[aa.all,ax,decide_eq_true_eq,decide_eq_false_iff_not]
   have re:∀{s:Nat→Nat} {y:Nat→Rat},dN [0] ([ptr 1 0 3 0 [],int i64 (0:Int),own 0 3 0 m,ls a l,aj 3 n fun i↦rat (k i) sK,int i64 l,int i64 (i.toNat:Nat),own 2 3 0 (l+1),ls a l,int i64 l,int i64 (r:Nat)],[((2:Nat),ah.mk true true 3 (l+1) fun i↦rat (y i) (s i)),((0:Nat),jI m c),((1:Nat),ah.mk false true 3 1 fun x↦rat 0 1)]) (sX n k l m a i.toNat r) (mG l m c y s) 3:=
    ⟨[(0,0),(1,1),(2,2)],rfl,rfl,rfl,hr4⟩
   exact⟨fun h1=>⟨(),by omega,re⟩,fun h1 s' hs'=>⟨rfl,r,⟨by omega,he⟩,re.le hs' hk⟩⟩
  have h1:=tD (d:=r)
  have h2:=yX (d:=r) (by omega)
  have h3:=Dp (d:=r)
  refine aq.Ai hT zm hm (x:=xe) [1,1] (i:=3) (y:=part xe [1,1,0,0]) (by kernel_rfl) (by kernel_rfl) (by kernel_rfl) hk (f1:=[]) (f2:=[76]) 60 ym 4 (fun j:Nat=>Ho n k l m a i.toNat r j) (fun j=>(3,tP (a r) sK)::mG l m c (lJ k b l r (a r) (x r) j) (mm r j)) (fun j=>r≤j∧j≤l) (fun j=>j=r) (fun j=>j) (fun _=>False) ⟨_,aj2,?_⟩ (fun j hj=>⟨_,abg,?_⟩) (fun j s' hj hle=>?_) (fun _ _ h=>h.elim)
  ·simp only[aa.all,ax,Int.toNat_natCast]
   refine⟨⟨by omega,by omega⟩,l,by omega,[(0,0),(1,1),(2,2),(3,12291)],rfl,rfl,rfl,aF rfl rfl (aE rfl rfl) (bB rfl rfl rfl (fun j hj=>aE rfl ?_) (aF rfl rfl (aE rfl rfl) (bB rfl rfl rfl (fun j hj=>aE rfl rfl) trivial)))⟩
   unfold lJ mm
   rw[if_pos (by omega),if_pos (by omega)]
  ·obtain⟨hj1,hj2⟩:=hj
   have e1:((i.toNat:Nat):Int)-(l:Int)+(j:Int)=((b+j:Nat):Int):=by omega
   have e2:((b+j:Nat):Int)+(l:Int)-(r:Int)=((b+j+(l-r):Nat):Int):=by omega
   have u1:∀{j':Nat},j'≤j→mm r j j'=SB r:=fun h=>by unfold mm;rw[if_pos h]
   simp only[aa.all,ax,decide_eq_true_eq,decide_eq_false_iff_not,e1,e2,Int.toNat_natCast,Nat.add_zero]
   refine⟨fun h4=>?_,fun h4=>⟨rfl,j,by omega,[(0,0),(1,1),(2,2),(3,3)],rfl,rfl,rfl,aF rfl rfl (aE rfl rfl) (bB rfl rfl rfl (fun j hj=>aE rfl rfl) (aF rfl rfl (aE rfl rfl) (bB rfl rfl rfl (fun j hj=>aE rfl rfl) trivial)))⟩⟩
   have e3:((j:Int)-1).toNat=j-1:=by omega
   have u2:=u1 (j':=j) (Nat.le_refl _)
   have u3:=u1 (j':=j-1) (by omega)
   simp only[e3,u2,u3]
   (repeat' with_reducible refine And.intro ?_ ?_)
   all_goals first|omega|skip
   exact⟨j-1,by omega,by dsimp only;omega,[(0,0),(1,1),(2,2),(3,3)],rfl,by rw[show(j:Int)-1=((j-1:Nat):Int) by omega];rfl,rfl,aF rfl rfl (aE rfl rfl) (bB rfl rfl rfl (fun q hq=>aez (by omega) (by omega)) (aF rfl rfl (aE rfl rfl) (bB rfl rfl rfl (fun j hj=>aE rfl rfl) trivial)))⟩
  ·subst hj
   show aq P cx ke.ntmps (part rT [1,1,1]) s' _
   refine aq.kK hle (aq.bk hT zm hm 60 nV ag1 (by kernel_rfl) ?_)
   simp only[aa.all,ax]
   refine⟨by omega,fun s' hs'=>⟨j+1,⟨by omega,he⟩,by dsimp only;omega,dN.le ⟨[(0,0),(1,1),(2,2)],rfl,rfl,rfl,bB rfl rfl rfl (fun q hq=>?_) (aF rfl rfl (aE rfl rfl) (bB rfl rfl rfl (fun j hj=>aE rfl rfl) trivial))⟩ hs' hk⟩⟩
   refine .inr ⟨rfl,bG (by rw[abD,hxS]) ?_⟩
   show mm j j q≤SB (j+1)
   unfold mm
   split<;>omega
 ·have hlp:l=p:=by
   unfold gH at he
   split at he
   ·omega
   ·omega
  subst hlp
  subst hr
  refine aq.jK ((aD.aag hT zm hm 60 Su (by kernel_rfl) ?_).mono fun _ _ h=>.inl h)
  have h2:=yX (d:=r) hp6
  simp only[aa.all,ax,Int.toNat_natCast,Nat.add_zero]
  refine⟨⟨by omega,by omega,by omega,by omega,by omega⟩,by omega,rfl,rfl,⟨bG ?_ (by show SB r+1+1≤536870912;omega),bt he.symm,trivial⟩,⟨_,rfl,hrow _ _ _⟩⟩
  unfold kV
  rw[if_pos he,←hb,hx,Rat.add_zero]
def ua (f:Nat→AV) (n s:Nat):Prop:=∀i,i<n→keys (f i)=[]∧bw (f i) (.rat (aO (f i)) s)
theorem afG {k:Nat→Rat} {n s s':Nat} (h:s≤s'):ua (fun i=>.rat (k i) s) n s':=fun _ _=>⟨rfl,fe h⟩
theorem ua.obj {f:Nat→AV} {n s:Nat} {w:Bool} (h:ua f n s) {m:Nat} (hm:n=m) (ρ:Nat→Option Nat):cJ ρ ⟨true,w,3,n,f⟩ ⟨true,w,3,m,fun i=>.rat (aO (f i)) s⟩:=⟨rfl,rfl,rfl,hm.symm,fun i hi=>mF (h i hi).1 (h i hi).2⟩
def Gb:Spec:=fun _ args pre=>match args,pre with
 |[.aj 3 n kf,.int .i64 p,.own b 3 0 m,.int .i64 i,.aj 3 l af],[(b',⟨true,true,3,mb,fb⟩)]=>match b'==b with
  |true=>some ⟨JL n (fun i=>aO (kf i)) p.toNat m (fun i=>aO (fb i)) i l (fun i=>aO (af i)),[(b,jI m fun i=>aO (fb i))],
   [mb=m,bK kf n sK,bK af l sK,ua fb m sK,1≤p,p≤6,n<2^40,m<2^40,-2^40<i,i<2^40]⟩
  |false=>none
 |_,_=>none
theorem agG:∀K args pre r,Gb K args pre=some r→aA P Dj K args pre r:=by
 intro K args pre r h
 unfold Gb at h
 split at h
 ·rename_i n kf p b m i l af b' mb fb
  split at h
  ·rename_i hc
   have hc:=eq_of_beq hc
   subst hc
   simp only[Option.some.injEq]at h
   subst h
   intro need
   obtain⟨rfl,n1,n2,n3,n4,n5,n6,n7,n8,n9⟩:=need
   refine SV hT Js (args:=[.aj 3 n kf,.int .i64 p,.own b' 3 0 mb,.int .i64 i,.aj 3 l af]) (us:=[.rat (kV n (fun i=>aO (kf i)) p.toNat mb (fun i=>aO (fb i)) i l (fun i=>aO (af i))) sB,.int .i64 (gH n (fun i=>aO (kf i)) p.toNat mb l i)]) (args0:=[ls (fun i=>aO (kf i)) n,.int .i64 p,.own 0 3 0 mb,.int .i64 i,ls (fun i=>aO (af i)) l]) (of_decide_eq_true (by kernel_rfl))
    ⟨⟨rfl,mF rfl (Ig n1)⟩,⟨rfl,aK rfl⟩,⟨rfl,cV rfl rfl rfl⟩,⟨rfl,aK rfl⟩,⟨rfl,mF rfl (Ig n2)⟩,trivial⟩ (fun _ ρ=>n3.obj rfl ρ) (fun _ c hk=>?_) K ⟨rfl,n1,n2,n3,n4,n5,n6,n7,n8,n9⟩
   have:=ah4 (n:=n) (p:=p.toNat) (m:=mb) (l:=l) (k:=fun i=>aO (kf i)) (c:=fun i=>aO (fb i)) (a:=fun i=>aO (af i)) (i:=i) (by omega) (by omega) n6 n7 n8 n9 c hk
   rw[Int.toNat_of_nonneg (by omega)]at this
   exact this
  ·simp at h
 ·simp at h
end Go.Am.B

/- spline.piece, Spline.polar. -/
namespace Go.Am.B
open Go Go.Am.N AV aa ak IntKind
theorem aaB:aP P yw A0 (au A0):=aQ RB (by kernel_rfl) (by kernel_rfl) (by kernel_rfl)
theorem IQ:aP P xu nJ (au nJ):=aQ S3 (by kernel_rfl) (by kernel_rfl) (by kernel_rfl)
def oN (k:Nat→Rat) (n:Nat):Nat→Nat→Nat
 |0,i=>i
 |f+1,i=>if i+1<n∧k (i+1)≤k i then oN k n f (i+1)else i
def fR (k:Nat→Rat) (n i:Nat):Nat:=oN k n (n-i) i
abbrev yp:List Nat:=[0,1,4]
abbrev Fe (n i:Nat) (k:Nat→Rat):List AV:=[ls k n,.int .i64 i,.int .i64 0]
noncomputable abbrev yb:Code:=au A0
def gV (h:Pl):Nat→Rat
 |0=>h.n.x
 |1=>h.n.y
 |2=>h.n.z
 |_=>h.d
def nC (g:Nat→Rat):Nat→Pl
 |0=>⟨⟨0,0,0⟩,0⟩
 |1=>⟨⟨g 0,0,0⟩,0⟩
 |2=>⟨⟨g 0,g 1,0⟩,0⟩
 |3=>⟨⟨g 0,g 1,g 2⟩,0⟩
 |_=>⟨⟨g 0,g 1,g 2⟩,g 3⟩
def fY (c:Cu) (i:Int) (l:Nat) (g:Nat→Rat) (a:Nat):Rat:=kV c.n c.k c.p.toNat c.m (fun j=>gV (c.f j) a) i l g
def nh (c:Cu) (i:Int) (l:Nat) (g:Nat→Rat):Pl:=⟨⟨fY c i l g 0,fY c i l g 1,fY c i l g 2⟩,fY c i l g 3⟩
def mO (c:Cu) (a:Nat) (x:Nat→Rat) (j q:Nat):Rat:=if q<j∨c.m≤q then gV (c.f q) a else x q
theorem Uy {c:Cu} {a:Nat} {x:Nat→Rat}:mO c a x c.m=fun q=>gV (c.f q) a:=by
 funext q;unfold mO;rw[if_pos (by omega)]
noncomputable def oZ:aS:=nG::(Dj,Gb)::gb
abbrev ig:List Nat:=[1,2,3,6,7,8,16]
abbrev jH (c:Cu) (i:Int) (l:Nat) (g:Nat→Rat) (a:Nat):List AV:=[.int .i64 i,ls g l,.ptr 0 0 3 0 [],.ptr 1 0 12 0 [],.ptr 2 0 12 0 [],.own 3 3 0 c.m,.int .i64 a]
abbrev yP:List Nat:=[1,2,3,6,7,8,16,9,20,21,22]
abbrev Dz (c:Cu) (i:Int) (l:Nat) (g:Nat→Rat) (a j:Nat):List AV:=[.int .i64 i,ls g l,.ptr 0 0 3 0 [],.ptr 1 0 12 0 [],.ptr 2 0 12 0 [],.own 3 3 0 c.m,.int .i64 a,.int .i64 a,qd c.f c.m sK,.int .i64 c.m,.int .i64 j]
abbrev iz (c:Cu) (x:Nat→Rat) (h:Pl):aC:=[(3,jI c.m x),(2,lz h sB),(1,lz ⟨⟨0,0,0⟩,0⟩ 1),(0,pq c sK)]
noncomputable abbrev CD:Code:=au nJ
noncomputable abbrev m8:Code:=part CD [1,1,1,0,1,0,0]
noncomputable abbrev ni:Code:=part m8 [1,1,0,0]
theorem abF {n i:Nat} {k:Nat→Rat}:aJ T (nG::gb) [] 60 yp (before yb [1,0]) ⟨aN 0 [ls k n,.int .i64 i],[],0⟩=
  some (leaf normal ([aj 3 n fun i↦rat (k i) 4096,int i64 (↑i:Int),int i64 (0:Int)],[])):=by kernel_rfl
theorem UN {n i:Nat} {k:Nat→Rat}:aJ T (nG::gb) [10,22] 60 yp [part yb [1,0,0,0]] ⟨aB yp (Fe n i k),[],0⟩=
  let c9:Prop:=sK<2^42;let c8:Int:=(↑i:Int);let c3:AV:=aj 3 n fun i↦rat (k i) 4096;let c4:aa (List AV×aC):=leaf (exit 0) ([c3,int i64 c8,int i64 (0:Int)],[]);let c1:Int:=c8+(1:Int);let c7:Int:=dc (k c8.toNat) (k c1.toNat);let c6:Bool:=decide (c1<(↑n:Int));let c2:Prop:=-(2:Int)^63≤c1∧c1<(2:Int)^63;let c5:aa (List AV×aC):=ag [c2] (leaf normal ([c3,int i64 c1,int i64 (0:Int)],[]));some (fork c6 (ag [c2,c6=true,(0:Int)≤c8∧c8.toNat<n,c2,(0:Int)≤c1∧c1.toNat<n,c9,c9] (fork (bif true then decide (c7≥(0:Int))else false) c5 c4)) (ag [c2,c6=false] (fork false c5 c4))):=by kernel_rfl
theorem Ut {n i:Nat} {k:Nat→Rat}:bY T (nG::gb) [] 60 A0 [part yb [1,1]] ⟨aB yp (Fe n i k),[],0⟩=
  some (leaf ret [int i64 (↑i:Int)]):=by kernel_rfl
theorem S9 {c:Cu} {i:Int} {l:Nat} {g:Nat→Rat}:aJ T oZ [] 60 ig (before CD [1,1,1,0,1]) ⟨aN 0 [dQ c sK sK,.int .i64 i,ls g l],[],0⟩=
  let c4:Nat:=(aT (dQ c sK sK)).size;let c3:Int:=(↑c.m:Int);let c1:AV:=rat 0 1;let c2:ah:=ah.mk false true 12 1 fun x↦agg [c1,c1,c1,c1];some (ag [(0:Nat)<1,(0:Int)≤c3∧c3≤c3∧c3≤(2:Int)^47∧c3*(↑(56:Nat):Int)≤(2:Int)^47] (leaf normal ([int i64 i,aj 3 l fun i↦rat (g i) 4096,ptr 0 0 c4 0 [],ptr 4096 0 12 0 [],ptr 8192 0 12 0 [],own 24576 3 0 c3.toNat,int i64 (0:Int)],[((24576:Nat),ah.mk true true 3 c3.toNat fun x↦c1),((8192:Nat),c2),((4096:Nat),c2),((0:Nat),ah.mk false true c4 1 fun x↦agg [int i64 c.p,aj 3 c.n fun i↦rat (c.k i) 4096,aj 12 c.m fun i↦agg [rat (c.f i).n.x 4096,rat (c.f i).n.y 4096,rat (c.f i).n.z 4096,rat (c.f i).d 4096]])]))):=by kernel_rfl
theorem ahq {c:Cu} {i:Int} {l a:Nat} {g x:Nat→Rat} {h:Pl}:aJ T oZ [17] 60 ig (before m8 [1,1,0]) ⟨aB ig (jH c i l g a),iz c x h,4⟩=
  let c2:AV:=rat 0 1;let c1:List AV×aC:=([int i64 i,aj 3 l fun i↦rat (g i) 4096,ptr 0 0 3 0 [],ptr 1 0 12 0 [],ptr 2 0 12 0 [],own 3 3 0 c.m,int i64 (↑a:Int)],[((3:Nat),ah.mk true true 3 c.m fun i↦rat (x i) 4096),((2:Nat),ah.mk false true 12 1 fun x↦agg [rat h.n.x 536870912,rat h.n.y 536870912,rat h.n.z 536870912,rat h.d 536870912]),((1:Nat),ah.mk false true 12 1 fun x↦agg [c2,c2,c2,c2]),((0:Nat),ah.mk false true 3 1 fun x↦agg [int i64 c.p,aj 3 c.n fun i↦rat (c.k i) 4096,aj 12 c.m fun i↦agg [rat (c.f i).n.x 4096,rat (c.f i).n.y 4096,rat (c.f i).n.z 4096,rat (c.f i).d 4096]])]);some (fork (decide ((↑a:Int)<(4:Int))) (leaf normal c1) (leaf (exit 0) c1)):=by kernel_rfl
theorem T2 {c:Cu} {i:Int} {l a:Nat} {g x:Nat→Rat} {h:Pl}:aJ T oZ [] 60 yP (before ni [1,0,1]) ⟨aB ig (jH c i l g a),iz c x h,4⟩=
  let c2:AV:=rat 0 1;let c1:AV:=aj 12 c.m fun i↦agg [rat (c.f i).n.x 4096,rat (c.f i).n.y 4096,rat (c.f i).n.z 4096,rat (c.f i).d 4096];some (ag [(0:Nat)<1] (leaf normal ([int i64 i,aj 3 l fun i↦rat (g i) 4096,ptr 0 0 3 0 [],ptr 1 0 12 0 [],ptr 2 0 12 0 [],own 3 3 0 c.m,int i64 (↑a:Int),int i64 (↑a:Int),c1,int i64 (↑c.m:Int),int i64 (0:Int)],[((3:Nat),ah.mk true true 3 c.m fun i↦rat (x i) 4096),((2:Nat),ah.mk false true 12 1 fun x↦agg [rat h.n.x 536870912,rat h.n.y 536870912,rat h.n.z 536870912,rat h.d 536870912]),((1:Nat),ah.mk false true 12 1 fun x↦agg [c2,c2,c2,c2]),((0:Nat),ah.mk false true 3 1 fun x↦agg [int i64 c.p,aj 3 c.n fun i↦rat (c.k i) 4096,c1])]))):=by kernel_rfl
theorem ajM {c:Cu} {i:Int} {l a:Nat} {g x:Nat→Rat} {h:Pl}:aJ T oZ [] 60 ig [part m8 [1,1,1]] ⟨aB ig (jH c i l g a),iz c x h,4⟩=
  let c2:Int:=(↑a:Int)+(1:Int);let c1:AV:=rat 0 1;some (ag [-(2:Int)^63≤c2∧c2<(2:Int)^63] (leaf normal ([int i64 i,aj 3 l fun i↦rat (g i) 4096,ptr 0 0 3 0 [],ptr 1 0 12 0 [],ptr 2 0 12 0 [],own 3 3 0 c.m,int i64 c2],[((3:Nat),ah.mk true true 3 c.m fun i↦rat (x i) 4096),((2:Nat),ah.mk false true 12 1 fun x↦agg [rat h.n.x 536870912,rat h.n.y 536870912,rat h.n.z 536870912,rat h.d 536870912]),((1:Nat),ah.mk false true 12 1 fun x↦agg [c1,c1,c1,c1]),((0:Nat),ah.mk false true 3 1 fun x↦agg [int i64 c.p,aj 3 c.n fun i↦rat (c.k i) 4096,aj 12 c.m fun i↦agg [rat (c.f i).n.x 4096,rat (c.f i).n.y 4096,rat (c.f i).n.z 4096,rat (c.f i).d 4096]])]))):=by kernel_rfl
theorem ahv {c:Cu} {i:Int} {l a:Nat} {g x:Nat→Rat} {h:Pl}:bY T oZ [] 60 nJ [part CD [1,1,1,1]] ⟨aB ig (jH c i l g a),iz c x h,4⟩=
  let c1:Prop:=0<1;some (ag [c1,c1] (ag [c1] (leaf ret [agg [rat h.n.x 536870912,rat h.n.y 536870912,rat h.n.z 536870912,rat h.d 536870912]]))):=by kernel_rfl
theorem aiR {k:Nat→Rat} {n i:Nat} (h:i+1<n) (h2:k (i+1)≤k i):fR k n i=fR k n (i+1):=by
 unfold fR;rw[show n-i=(n-(i+1))+1 by omega,oN,if_pos ⟨h,h2⟩]
theorem Lt {k:Nat→Rat} {n i:Nat} (h:¬(i+1<n∧k (i+1)≤k i)):fR k n i=i:=by
 unfold fR
 cases n-i with
 |zero=>rfl
 |succ f=>rw[oN,if_neg h]
theorem Tu {n i:Nat} {k:Nat→Rat} (hi:i≤n) (hn:n<2^40) (K:Nat):aA P yw K [ls k n,.int .i64 i] [] (aG (.int .i64 (fR k n i)) []):=by
 refine fD (r:=aG (.int .i64 (fR k n i)) []) hT (cL gY) hm aaB rfl (of_decide_eq_true (by kernel_rfl)) rfl [1,0] (i:=0) (y:=part yb [1,0,0,0]) (z:=part yb [1,1]) (by kernel_rfl) (by kernel_rfl) (by kernel_rfl) (f1:=[]) (f2:=[10,22]) (f3:=[]) 60 yp 0
  (fun j:Nat=>Fe n j k) (fun _=>[]) (fun j=>j≤n∧fR k n j=fR k n i) (fun j=>j=fR k n i) (fun j=>n-j) (fun _=>⟨⟨_,abF,?_⟩,fun j hj=>⟨_,UN,?_⟩,fun j hj=>⟨_,Ut,?_⟩⟩) K []
 ·simp only[aa.all,ax]
  exact⟨i,⟨hi,rfl⟩,[],rfl,rfl,rfl,trivial⟩
 ·have e1:((j:Int)+1).toNat=j+1:=by omega
  simp only[aa.all,ax,decide_eq_true_eq,decide_eq_false_iff_not,Int.toNat_natCast,cond_true,e1,w7]
  refine⟨fun h1=>⟨⟨by omega,by omega,by omega,by omega,by omega,by decide,by decide⟩,fun h2=>⟨by omega,j+1,⟨by omega,(aiR (by omega) h2).symm.trans hj.2⟩,by dsimp only;omega,[],rfl,rfl,rfl,trivial⟩,fun h2=>⟨rfl,j,?_,[],rfl,rfl,rfl,trivial⟩⟩,fun h1=>⟨⟨by omega,by omega⟩,fun h=>absurd h (by decide),fun _=>⟨rfl,j,?_,[],rfl,rfl,rfl,trivial⟩⟩⟩
  ·exact(Lt fun h=>h2 h.2).symm.trans hj.2
  ·exact(Lt fun h=>by omega).symm.trans hj.2
 ·subst hj
  simp only[aa.all,ax]
  exact .refl _
def KA:Spec:=cD (kC (kL sK) (kC kI kN)) (fun a=>.int .i64 (fR a.1.2 a.1.1 a.2.1.toNat)) fun a=>[0≤a.2.1,a.2.1≤a.1.1,a.1.1<2^40]
theorem Xv:∀K args pre r,KA K args pre=some r→aA P yw K args pre r:=cj fun⟨⟨n,k⟩,i,_⟩ K hn=>by
 obtain⟨h1,h2,h3⟩:=hn
 have:=Tu (n:=n) (i:=i.toNat) (k:=k) (by dsimp only at*;omega) h3 K
 rw[Int.toNat_of_nonneg h1]at this
 exact this
theorem uK:aW P oZ:=cL (aH agG gY)
def xb (c:Cu):Nat→Nat→Rat
 |0=>fun _=>0
 |a+1=>fun q=>gV (c.f q) a
theorem aeh {rl:List (Nat×Nat)} {c:Cu} {a:Nat} {x:Nat→Rat} {q:Nat} (hq:q<c.m):fz rl (.rat (x q) sK) (.rat (mO c a x 0 q) sK):=aE rfl (by unfold mO;rw[if_neg (by omega)])
theorem UW {rl:List (Nat×Nat)} {c:Cu} {a j:Nat} {x:Nat→Rat} {q:Nat} {v:Rat} (hq:q<c.m) (hv:v=gV (c.f j) a):fz rl (.rat (bif q==j then v else mO c a x j q) (bif q==j then sK else sK)) (.rat (mO c a x (j+1) q) sK):=by
 refine aE rfl ?_
 rw[Bool.cond_self]
 congr 1
 by_cases h:q=j
 ·subst h
  rw[beq_self_eq_true,cond_true,hv];unfold mO;rw[if_pos (by omega)]
 ·rw[beq_eq_false_iff_ne.2 h,cond_false];unfold mO
  by_cases h2:q<j
  ·rw[if_pos (.inl h2),if_pos (.inl (by omega))]
  ·rw[if_neg (by omega),if_neg (by omega)]
theorem agY {x:Nat→Rat} {m:Nat}:ua (fun i=>.rat (x i) sK) m sK:=afG (Nat.le_refl _)
theorem four {a:Nat} (ha:a<4):a=0∨a=1∨a=2∨a=3:=by omega
theorem QO {c:Cu} {i:Int} {l a j:Nat} {g x:Nat→Rat} {h:Pl} (ha:a<4):aJ T oZ [23] 60 yP [part ni [1,0,1,0,0]] ⟨aB yP (Dz c i l g a j),iz c x h,4⟩=
  some (fork (decide ((j:Int)<c.m)) (ag [(0:Int)≤j∧(j:Int).toNat<c.m,0<1] (ag [(0:Int)≤a∧(a:Int)<(4:Nat),0<1,(0:Int)≤j∧(j:Int).toNat<c.m,(j:Int).toNat+0<c.m] (ag [-(2:Int)^63≤(j:Int)+1∧(j:Int)+1<(2:Int)^63]
   (leaf normal ([.int .i64 i,ls g l,.ptr 0 0 3 0 [],.ptr 1 0 12 0 [],.ptr 2 0 12 0 [],.own 3 3 0 c.m,.int .i64 a,.int .i64 a,qd c.f c.m sK,.int .i64 c.m,.int .i64 ((j:Int)+1)],(3,⟨true,true,3,c.m,fun q=>.rat (bif q==(j:Int).toNat+0 then gV (c.f (j:Int).toNat) a else x q) (bif q==(j:Int).toNat+0 then sK else sK)⟩)::[(2,lz h sB),(1,lz ⟨⟨0,0,0⟩,0⟩ 1),(0,pq c sK)]))))) (leaf (exit 2) (Dz c i l g a j,iz c x h))):=by
 rcases four ha with rfl|rfl|rfl|rfl<;>kernel_rfl
theorem afE {c:Cu} {i:Int} {l a j:Nat} {g x:Nat→Rat} {h:Pl} (ha:a<4):aJ T oZ [] 60 ig [part ni [1,1]] ⟨aB yP (Dz c i l g a j),iz c x h,4⟩=
  some (ag [0<1,0<1,c.m=c.m,bK (fun i=>.rat (c.k i) sK) c.n sK,bK (fun i=>.rat (g i) sK) l sK,ua (fun i=>.rat (x i) sK) c.m sK,(1:Int)≤c.p,c.p≤(6:Int),c.n<2^40,c.m<2^40,-(2:Int)^40<i,i<(2:Int)^40,(0:Int)≤a∧(a:Int)<(4:Nat),0<1]
   (leaf normal (jH c i l g a,[(3,jI c.m x),(2,⟨false,true,12,1,fun j=>if(j==0)=true then .agg ((cP h sB).kids.set a (.rat (kV c.n c.k c.p.toNat c.m x i l g) sB))else cP h sB⟩),(1,lz ⟨⟨0,0,0⟩,0⟩ 1),(0,pq c sK)]))):=by
 rcases four ha with rfl|rfl|rfl|rfl<;>kernel_rfl
theorem agD {rl:List (Nat×Nat)} {G:Nat→Rat} {a:Nat} (ha:a<4):fz rl (.agg ((cP (nC G a) sB).kids.set a (.rat (G a) sB))) (cP (nC G (a+1)) sB):=by
 rcases four ha with rfl|rfl|rfl|rfl<;>exact aE rfl rfl
theorem adf {c:Cu} {i:Int} {l a:Nat} {g x:Nat→Rat} {cx:Ctx} {Q:ak→aI→Prop} (ha:a<4) (hk:Kept [] cx) (hp1:1≤c.p) (hp6:c.p≤6) (hn:c.n<2^40) (hm2:c.m<2^40) (hi:-2^40<i) (hi2:i<2^40)
  (hQ:∀s',(∃ρ,Le cx ρ s' ⟨aB ig (jH c i l g a),iz c (xb c (a+1)) (nC (fY c i l g) (a+1)),4⟩)→aq P cx nJ.ntmps (part m8 [1,1,1]) s' Q):
  aq P cx nJ.ntmps ni ⟨aB ig (jH c i l g a),iz c x (nC (fY c i l g) a),4⟩ (inBlock 1 (dm (fun s'=>aq P cx nJ.ntmps (part m8 [1,1,1]) s' Q) Q)):=by
 refine aq.Ai hT uK hm (x:=ni) [1,0,1] (i:=2) (y:=part ni [1,0,1,0,0]) (by kernel_rfl) (by kernel_rfl) (by kernel_rfl) hk (f1:=[]) (f2:=[23]) 60 yP 4 (fun j:Nat=>Dz c i l g a j) (fun j=>iz c (mO c a x j) (nC (fY c i l g) a)) (fun j=>j≤c.m) (fun j=>j=c.m) (fun j=>c.m-j) (fun _=>False) ⟨_,T2,?_⟩ (fun j hj=>⟨_,QO ha,?_⟩) (fun j s' hj hle=>?_) (fun _ _ h=>h.elim)
 ·simp only[aa.all,ax]
  exact⟨by omega,0,Nat.zero_le _,[(0,0),(1,1),(2,2),(3,3)],rfl,rfl,rfl,bB rfl rfl rfl (fun q hq=>aeh hq) (aF rfl rfl (aE rfl rfl) (aF rfl rfl (aE rfl rfl) (aF rfl rfl (aE rfl rfl) trivial)))⟩
 ·simp only[aa.all,ax,decide_eq_true_eq,decide_eq_false_iff_not,Int.toNat_natCast,Nat.add_zero]
  exact⟨fun h1=>⟨⟨by omega,by omega⟩,⟨by omega,by omega,by omega,by omega⟩,by omega,j+1,by omega,by dsimp only;omega,[(0,0),(1,1),(2,2),(3,3)],rfl,rfl,rfl,bB rfl rfl rfl (fun q hq=>UW hq rfl) (aF rfl rfl (aE rfl rfl) (aF rfl rfl (aE rfl rfl) (aF rfl rfl (aE rfl rfl) trivial)))⟩,
   fun h1=>⟨rfl,j,by omega,[(0,0),(1,1),(2,2),(3,3)],rfl,rfl,rfl,bB rfl rfl rfl (fun q hq=>aE rfl rfl) (aF rfl rfl (aE rfl rfl) (aF rfl rfl (aE rfl rfl) (aF rfl rfl (aE rfl rfl) trivial)))⟩⟩
 ·subst hj
  simp only[Uy]at hle
  rw[show behind ni [1,0,1]=[part ni [1,1]]from by kernel_rfl]
  refine aD.weak rfl hle (aD.bk hT uK hm 60 ig (afE ha) (by kernel_rfl) ?_)
  simp only[aa.all,ax]
  refine⟨⟨by omega,by omega,trivial,ct (Nat.le_refl _),ct (Nat.le_refl _),agY,hp1,hp6,hn,hm2,hi,hi2,by omega,by omega⟩,fun s'' hs''=>hQ s'' (dN.le ⟨[(0,0),(1,1),(2,2),(3,3)],rfl,rfl,rfl,bB rfl rfl rfl (fun q hq=>aE rfl rfl) (aF rfl rfl (agD ha) (aF rfl rfl (aE rfl rfl) (aF rfl rfl (aE rfl rfl) trivial)))⟩ hs'' hk)⟩
theorem Q2 {c:Cu} {i:Int} {l:Nat} {g:Nat→Rat} (hp1:1≤c.p) (hp6:c.p≤6) (hn:c.n<2^40) (hm2:c.m<2^40) (hi:-2^40<i) (hi2:i<2^40) (K:Nat):aA P xu K [dQ c sK sK,.int .i64 i,ls g l] [] (aG (cP (nh c i l g) sB) []):=by
 refine gk (r:=aG (cP (nh c i l g) sB) []) hT IQ rfl (of_decide_eq_true (by kernel_rfl)) rfl (fun _ cx h00=>?_) K []
 have hk:=nP h00
 refine aq.DY hT uK hm [1,1,1,0,1] (i:=0) (y:=m8) (z:=part CD [1,1,1,1]) (by kernel_rfl) (by kernel_rfl) (by kernel_rfl) IQ.dst hk (f1:=[]) 60 ig 4 (fun a:Nat=>jH c i l g a) (fun a=>iz c (xb c a) (nC (fY c i l g) a)) (fun a=>a≤4) (fun a=>a=4) (fun a=>4-a) (fun _=>False) ⟨_,S9,?_⟩ (fun a ha=>?_) (fun a ha=>?_) (fun _ _ h=>h.elim)
 ·simp only[aa.all,ax,Int.toNat_natCast]
  exact⟨⟨by omega,by omega⟩,0,by omega,[(0,0),(1,4096),(2,8192),(3,24576)],rfl,rfl,rfl,bB rfl rfl rfl (fun q hq=>.inr ⟨rfl,bG rfl (by decide)⟩) (aF rfl rfl (.inr ⟨rfl,cB (show eC [.rat _ _,.rat _ _,.rat _ _,.rat _ _] [.rat _ _,.rat _ _,.rat _ _,.rat _ _]from⟨bG rfl (by decide),bG rfl (by decide),bG rfl (by decide),bG rfl (by decide),trivial⟩)⟩) (aF rfl rfl (aE rfl rfl) (aF rfl rfl (aE rfl rfl) trivial)))⟩
 ·have re:∀{x:Nat→Rat} {h:Pl},dN [] (jH c i l g a,iz c x h) (jH c i l g a) (iz c x h) 4:=
   fun {x h}=>⟨[(0,0),(1,1),(2,2),(3,3)],rfl,rfl,rfl,bB rfl rfl rfl (fun q hq=>aE rfl rfl) (aF rfl rfl (aE rfl rfl) (aF rfl rfl (aE rfl rfl) (aF rfl rfl (aE rfl rfl) trivial)))⟩
  refine aq.uI hT uK hm (y:=m8) (x1:=ni) (zb:=part m8 [1,1,1]) [1,1,0] (j:=1) (by kernel_rfl) (by kernel_rfl) (by kernel_rfl) (by kernel_rfl) hk (f1:=[17]) 60 ig 4 (fun _:Unit=>jH c i l g a) (fun _=>iz c (xb c a) (nC (fY c i l g) a)) (fun _=>a<4) ⟨_,ahq,?_⟩ (fun _ ha'=>?_)
  ·simp only[aa.all,ax,decide_eq_true_eq,decide_eq_false_iff_not]
   exact⟨fun h1=>⟨(),by omega,re⟩,fun h1 s' hs'=>⟨rfl,a,by omega,re.le hs' hk⟩⟩
  have nx:∀s',(∃ρ,Le cx ρ s' ⟨aB ig (jH c i l g a),iz c (xb c (a+1)) (nC (fY c i l g) (a+1)),4⟩)→aq P cx nJ.ntmps (part m8 [1,1,1]) s' (DE cx ig (fun a:Nat=>jH c i l g a) (fun a=>iz c (xb c a) (nC (fY c i l g) a)) 4 (fun a=>a≤4) (fun a=>a=4) (fun a=>4-a) 0 (fun s'=>∃v,False∧aY ig s'=some v) a):=fun s' hle=>by
   refine aq.kK hle (aq.bk hT uK hm 60 ig ajM (by kernel_rfl) ?_)
   simp only[aa.all,ax]
   exact⟨by omega,fun s'' hs''=>⟨a+1,by omega,by dsimp only;omega,dN.le ⟨[(0,0),(1,1),(2,2),(3,3)],rfl,rfl,rfl,bB rfl rfl rfl (fun q hq=>aE rfl rfl) (aF rfl rfl (aE rfl rfl) (aF rfl rfl (aE rfl rfl) (aF rfl rfl (aE rfl rfl) trivial)))⟩ hs'' hk⟩⟩
  exact adf ha' hk hp1 hp6 hn hm2 hi hi2 nx
 ·subst ha
  refine aq.jK ((aD.fin hT uK hm 60 ahv (by kernel_rfl) ?_).mono fun _ _ h=>.inl h)
  simp only[aa.all,ax]
  exact⟨⟨by omega,by omega⟩,by omega,.refl _⟩
def JB:Spec:=cD (kC (tw sK sK) (kC kI (kC (kL sK) kN))) (fun a=>cP (nh a.1 a.2.1 a.2.2.1.1 a.2.2.1.2) sB) fun a=>[1≤a.1.p,a.1.p≤6,a.1.n<2^40,a.1.m<2^40,-2^40<a.2.1,a.2.1<2^40]
theorem RF:∀K args pre r,JB K args pre=some r→aA P xu K args pre r:=cj fun⟨c,i,⟨l,g⟩,_⟩ K hn=>Q2 hn.1 hn.2.1 hn.2.2.1 hn.2.2.2.1 hn.2.2.2.2.1 hn.2.2.2.2.2 K
end Go.Am.B

/- ref02: SameList, Mid, Text; ref08.Greville. -/
namespace Go.Am.B
open Go Go.Am.N AV aa ak IntKind
theorem ZZ:aP P vq xY (au xY):=aQ VE (by kernel_rfl) (by kernel_rfl) (by kernel_rfl)
theorem aga:aP P yQ lC (au lC):=aQ Rj (by kernel_rfl) (by kernel_rfl) (by kernel_rfl)
theorem VG:aP P wu jN (au jN):=aQ ahf (by kernel_rfl) (by kernel_rfl) (by kernel_rfl)
abbrev A6:List Nat:=[0,1,4,5]
abbrev Hh (n m:Nat) (f g:Nat→Rat) (i:Nat):List AV:=[bq f n sU,bq g m sU,.bool false,.int .i64 i]
noncomputable abbrev vC:Code:=au xY
theorem WZ {n m:Nat} {f g:Nat→Rat}:aJ T mo [10] 60 A6 (before vC [1,1,0,1]) ⟨aN 0 [bq f n sU,bq g m sU],[],0⟩=
  let c2:AV:=aj 3 m fun i↦rat (g i) 4294967296;let c1:AV:=aj 3 n fun i↦rat (f i) 4294967296;some (fork ((↑n:Int)!=(↑m:Int)) (leaf ret ([c1,c2,AV.bool false,tuple []],[])) (leaf normal ([c1,c2,AV.bool false,int i64 (0:Int)],[]))):=by kernel_rfl
theorem TR {n m i:Nat} {f g:Nat→Rat}:aJ T mo [14,26] 60 A6 [part vC [1,1,0,1,0,0]] ⟨aB A6 (Hh n m f g i),[],0⟩=
  let c4:AV:=aj 3 m fun i↦rat (g i) 4294967296;let c3:AV:=aj 3 n fun i↦rat (f i) 4294967296;let c2:Int:=(↑i:Int);let c5:Int:=c2+(1:Int);let c1:List AV×aC:=([c3,c4,AV.bool false,int i64 c2],[]);some (fork (decide (c2<(↑n:Int))) (ag [(0:Int)≤c2∧c2.toNat<n,(0:Int)≤c2∧c2.toNat<m] (fork (!decide (f c2.toNat=g c2.toNat)) (leaf ret c1) (ag [-(2:Int)^63≤c5∧c5<(2:Int)^63] (leaf normal ([c3,c4,AV.bool false,int i64 c5],[]))))) (leaf (exit 0) c1)):=by kernel_rfl
theorem TV {n m i:Nat} {f g:Nat→Rat}:bY T mo [] 60 xY [part vC [1,1,1]] ⟨aB A6 (Hh n m f g i),[],0⟩=
  some (leaf ret [AV.bool true]):=by kernel_rfl
def AM (n:Nat) (f:Nat→Rat) (m:Nat) (g:Nat→Rat):Bool:=decide (n=m∧∀i,i<n→f i=g i)
theorem ab1 {n m:Nat} {f g:Nat→Rat} (hn:n<2^40) (hm2:m<2^40) (K:Nat):aA P vq K [bq f n sU,bq g m sU] [] (aG (.bool (AM n f m g)) []):=by
 refine fD (r:=aG (.bool (AM n f m g)) []) hT HP hm ZZ rfl (of_decide_eq_true (by kernel_rfl)) rfl [1,1,0,1] (i:=0) (y:=part vC [1,1,0,1,0,0]) (z:=part vC [1,1,1]) (by kernel_rfl) (by kernel_rfl) (by kernel_rfl) (f1:=[10]) (f2:=[14,26]) (f3:=[]) 60 A6 0
  (fun i:Nat=>Hh n m f g i) (fun _=>[]) (fun i=>i≤n∧n=m∧∀j,j<i→f j=g j) (fun i=>i=n∧n=m∧∀j,j<i→f j=g j) (fun i=>n-i) (fun _=>⟨⟨_,WZ,?_⟩,fun i ⟨h1,h2,h3⟩=>⟨_,TR,?_⟩,fun i ⟨h1,h2,h3⟩=>⟨_,TV,?_⟩⟩) K []
 ·simp only[aa.all,ax,bne_iff_ne,ne_eq,bne_eq_false_iff_eq]
  exact⟨fun h=>⟨[.bool false],by kernel_rfl,eP (decide_eq_false (fun hh=>h (by omega))).symm⟩,fun h=>⟨0,⟨by omega,by omega,fun j hj=>by omega⟩,.vals rfl⟩⟩
 ·simp only[aa.all,ax,decide_eq_true_eq,decide_eq_false_iff_not,Bool.not_eq_true',Bool.not_eq_false',Int.toNat_natCast]
  (repeat' with_reducible first|refine And.intro ?_ ?_|intro _)
  all_goals first|omega|skip
  ·rename_i a b
   exact⟨[.bool false],by kernel_rfl,eP (decide_eq_false (fun hh=>b (hh.2 i (by omega)))).symm⟩
  ·rename_i a b
   refine⟨i+1,⟨by omega,h2,fun j hj=>?_⟩,by dsimp only;omega,.vals rfl⟩
   by_cases hj2:j=i
   ·subst hj2;exact b
   ·exact h3 j (by omega)
  ·exact⟨rfl,i,⟨by omega,h2,h3⟩,.vals rfl⟩
 ·subst h1
  exact eP (decide_eq_true ⟨h2,h3⟩).symm
def OZ:Spec:=cD (kC (kL sU) (kC (kL sU) kN)) (fun a=>.bool (AM a.1.1 a.1.2 a.2.1.1 a.2.1.2)) fun a=>[a.1.1<2^40,a.2.1.1<2^40]
theorem ajc:∀K args pre r,OZ K args pre=some r→aA P vq K args pre r:=cj fun _ K hn=>ab1 hn.1 hn.2 K
end Go.Am.B

/- Affine changes of gl: gl.Affine, ref08.Affine; ref08.Mirror. -/
namespace Go.Am.B
open Go Go.Am.N AV aa ak IntKind
abbrev mc (m:Nat) (k:Nat→Rat) (s:Nat):ah:=⟨true,true,3,m,fun i=>.rat (k i) s⟩
end Go.Am.B
