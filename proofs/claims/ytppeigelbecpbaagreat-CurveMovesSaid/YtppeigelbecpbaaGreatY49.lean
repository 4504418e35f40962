/- Affine changes of fJ: fJ.Affine, ref08.Affine; ref08.Mirror. -/
import Derived.Test.YtppeigelbecpbaaGreatY48
import Derived.Test.YtppeigelbecpbaaGreatZ2
import Derived.Test.YtppeigelbecpbaaGreatY45
set_option linter.unusedVariables false
namespace Go.Am.B
open Go Go.Am.N AV aa ak IntKind
theorem U3:aO P vm zx (au zx):=aP Ye (by kernel_rfl) (by kernel_rfl) (by kernel_rfl)
theorem SG:aO P zl yH (au yH):=aP ajH (by kernel_rfl) (by kernel_rfl) (by kernel_rfl)
theorem Q2:aO P xF Ao (au Ao):=aP abF (by kernel_rfl) (by kernel_rfl) (by kernel_rfl)
def BL:aR:=nG::(o4,gI kR kR sj mU)::eU
def fL (n:Nat) (k:Nat→Rat) (a b:Rat) (i:Nat):Rat:=a+(k i-k 0)/(k (n-1)-k 0)*(b-a)
def fG (n:Nat) (k:Nat→Rat) (i:Nat):Rat:=k 0+k (n-1)-k (n-1-i)
abbrev mD (m:Nat) (k:Nat→Rat) (s:Nat):ah:=⟨true,true,3,m,fun i=>.rat (k i) s⟩
abbrev wL:List Nat:=[0,4,5,6,7,8,17,18,19]
abbrev EZ (n:Nat) (k:Nat→Rat) (s i:Nat):List AV:=[aV k n s,.ptr 0 0 3 0 [],.ptr 1 0 3 0 [],.nil,.int .i64 0,.own 2 3 0 i,aV k n s,.int .i64 n,.int .i64 i]
abbrev Hq (i:Nat) (x:Nat→Rat) (a b:Rat) (r w:Nat):aC:=[(2,mD i x w),(1,tP b r),(0,tP a r)]
noncomputable abbrev wX:Code:=au zx
abbrev wJ:List Nat:=[0,4,6,7,8,10,11,12]
abbrev Gj (n:Nat) (k:Nat→Rat) (s i:Nat):List AV:=[aV k n s,.ptr 0 0 3 0 [],.nil,.int .i64 0,.ptr 1 0 3 0 [],.ptr 2 0 3 0 [],.own 3 3 0 i,.int .i64 i]
abbrev Hl (i:Nat) (x:Nat→Rat) (a f q:Rat) (r s u w:Nat):aC:=[(3,mD i x w),(2,tP q u),(1,tP f s),(0,tP a r)]
noncomputable abbrev ux:Code:=au yH
abbrev An:List Nat:=[0,3,4]
abbrev ur (n:Nat) (k:Nat→Rat) (s:Nat) (i:Nat) (j:Int):List AV:=[aV k n s,.own 0 3 0 i,.int .i64 j]
noncomputable abbrev wg:Code:=au Ao
def jf (n:Nat) (a b:Rat):Nat:=if b≤a then 0 else n
def gV (a b:Rat):Int:=if b≤a then 7 else 0
abbrev p9 (n:Nat) (k:Nat→Rat) (a b:Rat) (w:Nat):AV:=.tuple [aV (fL n k a b) (jf n a b) w,.int .i64 (gV a b)]
theorem TQ {n s r:Nat} {k:Nat→Rat} {a b:Rat}:aK T BL [16] 60 wL (before wX [1,1,1,0,1]) ⟨aN 0 [aV k n s,.rat a r,.rat b r],[],0⟩=
  let c5:Prop:=r<2^42;let c4:AV:=ptr 0 0 (aU (rat a r)).size 0 [];let c3:AV:=ptr 4096 0 (aU (rat b r)).size 0 [];let c2:AV:=aj 3 n fun i↦rat (k i) s;let c1:List (Nat×ah):=[((4096:Nat),ah.mk false true (aU (rat b r)).size 1 fun x↦rat b r),((0:Nat),ah.mk false true (aU (rat a r)).size 1 fun x↦rat a r)];some (ag [(0:Nat)<1,(0:Nat)<1,c5,c5] (fork (decide (dZ a b≥(0:Int))) (leaf ret ([c2,c4,c3,nil,int i64 (7:Int),tuple [],tuple [],tuple [],tuple []],c1)) (leaf normal ([c2,c4,c3,nil,int i64 (0:Int),nil,c2,int i64 (↑n:Int),int i64 (0:Int)],c1)))):=by kernel_rfl
theorem agB {n s r w i:Nat} {k x:Nat→Rat} {a b:Rat}:aK T BL [20] 60 wL [part wX [1,1,1,0,1,0,0]] ⟨aB wL (EZ n k s i),Hq i x a b r w,3⟩=
  let c13:Nat:=r+r+1;let c12:Int:=(↑n:Int);let c11:AV:=ptr 1 0 3 0 [];let c10:AV:=ptr 0 0 3 0 [];let c9:Nat:=Int.toNat (0:Int);let c8:Int:=(↑i:Int);let c7:Int:=(2:Int)^63;let c5:AV:=aj 3 n fun i↦rat (k i) s;let c4:Nat:=s+s+1;let c3:Prop:=0<1;let c2:List (Nat×ah):=[((1:Nat),ah.mk false true 3 1 fun x↦rat b r),((0:Nat),ah.mk false true 3 1 fun x↦rat a r)];let c1:Nat:=2^42;let c15:Int:=c8+(1:Int);let c14:Prop:=(0:Int)≤(0:Int)∧c9<n;let c6:Int:=c12-(1:Int);some (fork (decide (c8<c12)) (ag [(0:Int)≤c8∧c8.toNat<n,c3] (ag [c3,c14,s<c1,s<c1,-c7≤c6∧c6<c7,(0:Int)≤c6∧c6.toNat<n,c14,s<c1,s<c1,c4<c1,c4<c1,c3] (ag [c3,c3,c3,c3,r<c1,r<c1,c4+c4<c1,c13<c1,r<c1,c4+c4+c13<c1,(1:Nat)*3≤2^24,(i+1)*((56:Nat)+1)*2≤2^47] (ag [-c7≤c15∧c15<c7] (leaf normal ([c5,c10,c11,nil,int i64 (0:Int),own 147459 3 0 (i+1),c5,int i64 c12,int i64 c15],((147459:Nat),ah.mk true true 3 (i+1) fun i_1↦if i_1<i then rat (x i_1) w else nth [rat (a+(k c8.toNat-k c9)/(k c6.toNat-k c9)*(b-a)) (r+(c4+c4+c13)+1)] (rat 0 1) (i_1-i+0))::c2)))))) (leaf (exit 0) ([c5,c10,c11,nil,int i64 (0:Int),own 2 3 0 i,c5,int i64 c12,int i64 c8],((2:Nat),ah.mk true true 3 i fun i↦rat (x i) w)::c2))):=by kernel_rfl
theorem af9 {n s r w i:Nat} {k x:Nat→Rat} {a b:Rat}:bW T BL [] 60 zx [part wX [1,1,1,1]] ⟨aB wL (EZ n k s i),Hq i x a b r w,3⟩=
  some (leaf ret [aj 3 i fun i↦rat (x (i+0)) w,int i64 (0:Int)]):=by kernel_rfl
theorem adv {n s r:Nat} {k:Nat→Rat} {a b:Rat}:aK T oY [16] 60 wJ (before ux [1,1,1,1,1,0,1]) ⟨aN 0 [aV k n s,.rat a r,.rat b r],[],0⟩=
  let c8:AV:=rat 0 1;let c7:Nat:=Int.toNat (0:Int);let c6:AV:=aj 3 n fun i↦rat (k i) s;let c5:AV:=ptr 0 0 (aU (rat a r)).size 0 [];let c4:Nat×ah:=((0:Nat),ah.mk false true (aU (rat a r)).size 1 fun x↦rat a r);let c3:Int:=(↑n:Int)-(1:Int);let c2:Nat:=2^41;let c1:Prop:=0<1;some (ag [c1,c1,r<c2,r<c2] (fork (decide (dZ a b≥(0:Int))) (leaf ret ([c6,c5,nil,int i64 (7:Int),tuple [],tuple [],tuple [],tuple []],[c4])) (ag [(0:Int)≤(0:Int)∧c7<n,-(2:Int)^63≤c3∧c3<(2:Int)^63,(0:Int)≤c3∧c3.toNat<n,c1,c1] (ag [c1,c1,r<c2,r<c2,c1,c1,s<c2,s<c2,r+r+1<c2,s+s+1<c2,c1] (leaf normal ([c6,c5,nil,int i64 (0:Int),ptr 69632 0 3 0 [],ptr 114688 0 3 0 [],nil,int i64 (0:Int)],[((114688:Nat),ah.mk false true 3 1 fun j↦if(j==0)=true then aU (EY (b-a,r+r+1) (k c3.toNat-k c7,s+s+1))else c8),((69632:Nat),ah.mk false true 3 1 fun j↦if(j==0)=true then aU (rat (k c7) s)else c8),c4])))))):=by kernel_rfl
theorem RZ {n s r u w i:Nat} {k x:Nat→Rat} {a f q:Rat}:aK T oY [36] 60 wJ [part ux [1,1,1,1,1,0,1,0,0]] ⟨aB wJ (Gj n k s i),Hl i x a f q r s u w,4⟩=
  let c9:Nat:=s+s+1;let c8:AV:=aj 3 n fun i↦rat (k i) s;let c7:Prop:=0<1;let c6:AV:=ptr 2 0 3 0 [];let c5:AV:=ptr 1 0 3 0 [];let c4:AV:=ptr 0 0 3 0 [];let c3:Int:=(↑i:Int);let c2:Nat:=2^41;let c1:List (Nat×ah):=[((2:Nat),ah.mk false true 3 1 fun x↦rat q u),((1:Nat),ah.mk false true 3 1 fun x↦rat f s),((0:Nat),ah.mk false true 3 1 fun x↦rat a r)];let c10:Int:=c3+(1:Int);some (fork (decide (c3<(↑n:Int))) (ag [c7,(0:Int)≤c3∧c3.toNat<n,c7,s<c2,s<c2,c7,c9<c2,u<c2,r<c2,c9+u<c2,(1:Nat)*3≤2^24,(i+1)*((56:Nat)+1)*2≤2^47] (ag [-(2:Int)^63≤c10∧c10<(2:Int)^63] (leaf normal ([c8,c4,nil,int i64 (0:Int),c5,c6,own 65540 3 0 (i+1),int i64 c10],((65540:Nat),ah.mk true true 3 (i+1) fun i_1↦if i_1<i then rat (x i_1) w else nth [rat (a+(k c3.toNat-f)*q) (r+(c9+u)+1)] (rat 0 1) (i_1-i+0))::c1)))) (leaf (exit 0) ([c8,c4,nil,int i64 (0:Int),c5,c6,own 3 3 0 i,int i64 c3],((3:Nat),ah.mk true true 3 i fun i↦rat (x i) w)::c1))):=by kernel_rfl
theorem aaC {n s r u w i:Nat} {k x:Nat→Rat} {a f q:Rat}:bW T oY [] 60 yH [part ux [1,1,1,1,1,1]] ⟨aB wJ (Gj n k s i),Hl i x a f q r s u w,4⟩=
  some (leaf ret [aj 3 i fun i↦rat (x (i+0)) w,int i64 (0:Int)]):=by kernel_rfl
theorem aa7 {n s:Nat} {k:Nat→Rat}:aK T oY [] 60 An (before wg [1,1,0,1]) ⟨aN 0 [aV k n s],[],0⟩=
  let c1:Int:=(↑n:Int)-(1:Int);some (ag [-(2:Int)^63≤c1∧c1<(2:Int)^63] (leaf normal ([aj 3 n fun i↦rat (k i) s,nil,int i64 c1],[]))):=by kernel_rfl
theorem ab4 {n s w i:Nat} {j:Int} {k x:Nat→Rat}:aK T oY [9] 60 An [part wg [1,1,0,1,0,0]] ⟨aB An (ur n k s i j),[(0,mD i x w)],1⟩=
  let c4:AV:=aj 3 n fun i↦rat (k i) s;let c3:Nat:=2^41;let c2:Int:=(2:Int)^63;let c1:Int:=(↑n:Int)-(1:Int);some (fork (decide (j≥(0:Int))) (ag [(0:Int)≤(0:Int)∧Int.toNat (0:Int)<n,-c2≤c1∧c1<c2,(0:Int)≤c1∧c1.toNat<n,s<c3,s<c3,(0:Int)≤j∧j.toNat<n,s+s+1<c3,s<c3,(1:Nat)*3≤2^24,(i+1)*((56:Nat)+1)*2≤2^47] (ag [-c2≤j-(1:Int)∧j-(1:Int)<c2] (leaf normal ([c4,own 77825 3 0 (i+1),int i64 (j-(1:Int))],[((77825:Nat),ah.mk true true 3 (i+1) fun i_1↦if i_1<i then rat (x i_1) w else nth [rat (k (Int.toNat (0:Int))+k c1.toNat-k j.toNat) (s+s+1+s+1)] (rat 0 1) (i_1-i+0))])))) (leaf (exit 0) ([c4,own 0 3 0 i,int i64 j],[((0:Nat),ah.mk true true 3 i fun i↦rat (x i) w)]))):=by kernel_rfl
theorem abQ {n s w i:Nat} {j:Int} {k x:Nat→Rat}:bW T oY [] 60 Ao [part wg [1,1,1]] ⟨aB An (ur n k s i j),[(0,mD i x w)],1⟩=
  some (leaf ret [aj 3 i fun i↦rat (x (i+0)) w]):=by kernel_rfl
theorem QX:aX P BL:=cC (aJ (gZ fun _ _ K hn=>vt hn.1 hn.2 K) fC)
theorem ML {n w:Nat} {k:Nat→Rat} {a b:Rat} (h:b≤a):dx [.nil,.int .i64 7] (p9 n k a b w):=
 ⟨by unfold jf;rw[if_pos h];exact iJ (by decide),bt (by unfold gV;rw[if_pos h]),trivial⟩
theorem Kz {n w:Nat} {k:Nat→Rat} {a b:Rat} (h:a<b):dx [aV (fL n k a b) n w,.int .i64 0] (p9 n k a b w):=by
 have h':¬b≤a:=Rat.not_le.2 h
 exact⟨by unfold jf;rw[if_neg h'];exact .refl _,bt (by unfold gV;rw[if_neg h']),trivial⟩
theorem agf {n s r w:Nat} {k:Nat→Rat} {a b:Rat} (h:4*s+3*r+4≤w) (hw:w<2^40) (hn1:1≤n) (hn:n<2^40) (K:Nat):aA P vm K [aV k n s,.rat a r,.rat b r] [] (aI (p9 n k a b w) []):=by
 have e0:((n:Int)-1).toNat=n-1:=by omega
 refine fK (r:=aI (p9 n k a b w) []) hT QX hm U3 rfl (of_decide_eq_true (by kernel_rfl)) rfl [1,1,1,0,1] (i:=0) (y:=part wX [1,1,1,0,1,0,0]) (z:=part wX [1,1,1,1]) (by kernel_rfl) (by kernel_rfl) (by kernel_rfl) (f1:=[16]) (f2:=[20]) (f3:=[]) 60 wL 3
  (fun i:Nat=>EZ n k s i) (fun i=>Hq i (fL n k a b) a b r w) (fun i=>i≤n∧a<b) (fun i=>i=n∧a<b) (fun i=>n-i) (fun _=>⟨⟨_,TQ,?_⟩,fun i hi=>⟨_,agB,?_⟩,fun i hi=>⟨_,af9,?_⟩⟩) K []
 ·simp only[aa.all,ax,decide_eq_true_eq,decide_eq_false_iff_not,zq]
  exact⟨by omega,fun h1=>⟨_,by kernel_rfl,ML h1⟩,fun h1=>⟨0,⟨by omega,Rat.not_le.1 h1⟩,[(0,0),(1,4096)],rfl,rfl,rfl,jy rfl (by omega) (by omega) (aF rfl rfl (aD rfl rfl) (aF rfl rfl (aD rfl rfl) trivial))⟩⟩
 ·simp only[aa.all,ax,decide_eq_true_eq,decide_eq_false_iff_not,Int.toNat_natCast,Nat.add_zero,Int.toNat_zero,e0]
  exact⟨fun h1=>⟨by omega,by omega,by omega,by omega,i+1,⟨by omega,hi.2⟩,by dsimp only;omega,[(0,0),(1,1),(2,147459)],rfl,rfl,rfl,aW rfl rfl rfl (fun j hj=>lZ (fun _ _=>rfl) rfl (Nat.le_refl _) (by omega) hj) (aF rfl rfl (aD rfl rfl) (aF rfl rfl (aD rfl rfl) trivial))⟩,
   fun h1=>⟨rfl,i,⟨by omega,hi.2⟩,[(0,0),(1,1),(2,2)],rfl,rfl,rfl,aW rfl rfl rfl (fun j hj=>aD rfl rfl) (aF rfl rfl (aD rfl rfl) (aF rfl rfl (aD rfl rfl) trivial))⟩⟩
 ·obtain⟨rfl,hab⟩:=hi
  simp only[aa.all,ax]
  exact Kz hab
theorem ajX {n s r w:Nat} {k:Nat→Rat} {a b:Rat} (h:4*s+3*r+4≤w) (hw:w<2^40) (hn1:1≤n) (hn:n<2^40) (K:Nat):aA P zl K [aV k n s,.rat a r,.rat b r] [] (aI (p9 n k a b w) []):=by
 have e0:((n:Int)-1).toNat=n-1:=by omega
 refine fK (r:=aI (p9 n k a b w) []) hT Es hm SG rfl (of_decide_eq_true (by kernel_rfl)) rfl [1,1,1,1,1,0,1] (i:=0) (y:=part ux [1,1,1,1,1,0,1,0,0]) (z:=part ux [1,1,1,1,1,1]) (by kernel_rfl) (by kernel_rfl) (by kernel_rfl) (f1:=[16]) (f2:=[36]) (f3:=[]) 60 wJ 4
  (fun i:Nat=>Gj n k s i) (fun i=>Hl i (fL n k a b) a (k 0) ((b-a)/(k (n-1)-k 0)) r s (2*r+2*s+2) w) (fun i=>i≤n∧a<b) (fun i=>i=n∧a<b) (fun i=>n-i) (fun _=>⟨⟨_,adv,?_⟩,fun i hi=>⟨_,RZ,?_⟩,fun i hi=>⟨_,aaC,?_⟩⟩) K []
 ·simp only[aa.all,ax,decide_eq_true_eq,decide_eq_false_iff_not,zq,Int.toNat_zero,e0]
  exact⟨by omega,fun h1=>⟨_,by kernel_rfl,ML h1⟩,fun h1=>⟨by omega,by omega,0,⟨by omega,Rat.not_le.1 h1⟩,[(0,0),(1,69632),(2,114688)],rfl,rfl,rfl,jy rfl (by omega) (by omega) (aF rfl rfl (.inr ⟨rfl,bp rfl (by omega)⟩) (aF rfl rfl (aD rfl rfl) (aF rfl rfl (aD rfl rfl) trivial)))⟩⟩
 ·simp only[aa.all,ax,decide_eq_true_eq,decide_eq_false_iff_not,Int.toNat_natCast,Nat.add_zero]
  exact⟨fun h1=>⟨by omega,by omega,i+1,⟨by omega,hi.2⟩,by dsimp only;omega,[(0,0),(1,1),(2,2),(3,65540)],rfl,rfl,rfl,aW rfl rfl rfl (fun j hj=>lZ (fun _ _=>rfl) (by simp only[fL,Rat.div_def];grind) (Nat.le_refl _) (by omega) hj) (aF rfl rfl (aD rfl rfl) (aF rfl rfl (aD rfl rfl) (aF rfl rfl (aD rfl rfl) trivial)))⟩,
   fun h1=>⟨rfl,i,⟨by omega,hi.2⟩,[(0,0),(1,1),(2,2),(3,3)],rfl,rfl,rfl,aW rfl rfl rfl (fun j hj=>aD rfl rfl) (aF rfl rfl (aD rfl rfl) (aF rfl rfl (aD rfl rfl) (aF rfl rfl (aD rfl rfl) trivial)))⟩⟩
 ·obtain⟨rfl,hab⟩:=hi
  simp only[aa.all,ax]
  exact Kz hab
theorem SA {n s w:Nat} {k:Nat→Rat} (h:3*s+2≤w) (hw:w<2^40) (hn:n<2^40) (K:Nat):aA P xF K [aV k n s] [] (aI (aV (fG n k) n w) []):=by
 refine fK (r:=aI (aV (fG n k) n w) []) hT Es hm Q2 rfl (of_decide_eq_true (by kernel_rfl)) rfl [1,1,0,1] (i:=0) (y:=part wg [1,1,0,1,0,0]) (z:=part wg [1,1,1]) (by kernel_rfl) (by kernel_rfl) (by kernel_rfl) (f1:=[]) (f2:=[9]) (f3:=[]) 60 An 1
  (fun i:Nat=>ur n k s i ((n:Int)-1-i)) (fun i=>[(0,mD i (fG n k) w)]) (fun i=>i≤n) (fun i=>i=n) (fun i=>n-i) (fun _=>⟨⟨_,aa7,?_⟩,fun i hi=>⟨_,ab4,?_⟩,fun i hi=>⟨_,abQ,?_⟩⟩) K []
 ·simp only[aa.all,ax]
  exact⟨by omega,0,by omega,[],rfl,by show _=(ur n k s 0 ((n:Int)-1-((0:Nat):Int))).map _;rw[show(n:Int)-1-((0:Nat):Int)=(n:Int)-1 by omega];rfl,rfl,jy rfl (by omega) (by omega) trivial⟩
 ·simp only[aa.all,ax,decide_eq_true_eq,decide_eq_false_iff_not,Int.toNat_natCast,Nat.add_zero,Int.toNat_zero]
  refine⟨fun h1=>⟨by omega,by omega,i+1,by omega,by dsimp only;omega,[(0,77825)],rfl,by show _=(ur n k s (i+1) ((n:Int)-1-((i+1:Nat):Int))).map _;rw[show(n:Int)-1-((i+1:Nat):Int)=(n:Int)-1-i-1 by omega];rfl,rfl,aW rfl rfl rfl (fun j hj=>lZ (fun _ _=>rfl) ?_ (Nat.le_refl _) (by omega) hj) trivial⟩,
   fun h1=>⟨rfl,i,by omega,[(0,0)],rfl,rfl,rfl,aW rfl rfl rfl (fun j hj=>aD rfl rfl) trivial⟩⟩
  rw[show((n:Int)-1-i).toNat=n-1-i by omega,show((n:Int)-1).toNat=n-1 by omega];rfl
 ·subst hi
  simp only[aa.all,ax]
  exact .refl _
def B7 (s r w:Nat):Spec:=cJ (kC (kL s) (kC (iG r) (kC (iG r) kN))) (fun a=>p9 a.1.1 a.1.2 a.2.1 a.2.2.1 w) fun a=>[1≤a.1.1,a.1.1<2^40]
theorem TZ {s r w:Nat} (h:4*s+3*r+4≤w) (hw:w<2^40):∀K args pre q,B7 s r w K args pre=some q→aA P vm K args pre q:=cz fun⟨⟨n,k⟩,a,b,_⟩ K hn=>agf h hw hn.1 hn.2 K
theorem aez {s r w:Nat} (h:4*s+3*r+4≤w) (hw:w<2^40):∀K args pre q,B7 s r w K args pre=some q→aA P zl K args pre q:=cz fun⟨⟨n,k⟩,a,b,_⟩ K hn=>ajX h hw hn.1 hn.2 K
def Bv (s w:Nat):Spec:=cJ (kC (kL s) kN) (fun a=>aV (fG a.1.1 a.1.2) a.1.1 w) fun a=>[a.1.1<2^40]
theorem aiq {s w:Nat} (h:3*s+2≤w) (hw:w<2^40):∀K args pre q,Bv s w K args pre=some q→aA P xF K args pre q:=cz fun⟨⟨n,k⟩,_⟩ K hn=>SA h hw hn K
end Go.Am.B

/- fJ.Mirror: slices.Backward of numbers. -/
namespace Go.Am.B
open Go Go.Am.N AV aa ak IntKind
abbrev JV:FuncId:=NO
abbrev Cc:FuncId:=Al
noncomputable abbrev qm:Code:=au FV
theorem abT:aO P JV AR (au AR):=aP UM (by kernel_rfl) (by kernel_rfl) (by kernel_rfl)
theorem EV:aO P Cc FV qm:=aP agw (by kernel_rfl) (by kernel_rfl) (by kernel_rfl)
theorem Ll:aO P AM vk (au vk):=aP Yg (by kernel_rfl) (by kernel_rfl) (by kernel_rfl)
def loadT (o:Oper):Nat:=match o.op with
 |.load t _=>t
 |_=>0
def Is (o:Oper):Nat:=match o.op with
 |.binOp _ t _ _ _=>t
 |_=>0
noncomputable abbrev Jw:Nat:=loadT (cM qm [0] 0)
noncomputable abbrev JK:Nat:=loadT (cM qm [1,0,0,1,0,0,0] 5)
noncomputable abbrev bkI:Nat:=Is (cM qm [0] 2)
def PZ (o:Oper):Array TypeId:=match o.op with
 |.call c=>c.argTypes
 |_=>#[]
def N7 (o:Oper):Nat:=match o.op with
 |.unOp _ t _=>t
 |_=>0
theorem R8:Ev qm Jw JK bkI:=⟨by kernel_rfl,⟨by kernel_rfl,by kernel_rfl,by kernel_rfl⟩,⟨by kernel_rfl,by kernel_rfl,by kernel_rfl⟩,⟨by kernel_rfl,by kernel_rfl,by kernel_rfl⟩,⟨by kernel_rfl,by kernel_rfl,by kernel_rfl⟩,⟨by kernel_rfl,by kernel_rfl,by kernel_rfl⟩,⟨by kernel_rfl,by kernel_rfl,by kernel_rfl⟩,⟨by kernel_rfl,by kernel_rfl,by kernel_rfl⟩,⟨by kernel_rfl,by kernel_rfl,by kernel_rfl⟩,⟨by kernel_rfl,by kernel_rfl,by kernel_rfl⟩,⟨by kernel_rfl,by kernel_rfl,by kernel_rfl⟩,⟨by kernel_rfl,by kernel_rfl,by kernel_rfl⟩,⟨by kernel_rfl,by kernel_rfl,by kernel_rfl⟩,
 ⟨PZ (cM qm [1,0,0,1,0,0,0] 6),by kernel_rfl,by kernel_rfl,by kernel_rfl⟩,⟨N7 (cM qm [1,0,0,1,0,0,0] 7),by kernel_rfl,by kernel_rfl,by kernel_rfl⟩,⟨by kernel_rfl,by kernel_rfl,by kernel_rfl⟩,⟨by kernel_rfl,by kernel_rfl,by kernel_rfl⟩,⟨by kernel_rfl,by kernel_rfl,by kernel_rfl⟩⟩
theorem RE {n s:Nat} {k:Nat→Rat} (hn:n<2^62):vq P Cc [.bH (aV k n s)] n (fun i=>.int .i64 ((n:Int)-1-i)) (fun i=>.rat (k (n-1-i)) s):=
 MZ hT (tiS:=(look Jw T).getD ⟨.bool,0,0,.nil⟩) (tiE:=(look JK T).getD ⟨.bool,0,0,.nil⟩) (by kernel_rfl) (by kernel_rfl) (by kernel_rfl) (by kernel_rfl) EV.get EV.body (by kernel_rfl) (by kernel_rfl) R8 (f:=fun i=>.rat (k i) s) hn (by kernel_rfl) fun i hi=>⟨rfl,rfl⟩
noncomputable def vX:aR:=nG::(JV,fW T [sG] [] 20 AR)::eU
abbrev x6:List Nat:=[1,3,7]
abbrev HI (n:Nat) (k:Nat→Rat) (s:Nat):List AV:=[.ptr 0 0 1 0 [],.ptr 1 0 1 0 [],.func Cc [.bH (aV k n s)]]
abbrev wC (n:Nat) (k:Nat→Rat) (s i:Nat) (x:Nat→Rat) (w:Nat):aC:=[(2,mD i x w),(1,⟨false,true,1,1,fun _=>.own 2 3 0 i⟩),(0,⟨false,true,1,1,fun _=>aV k n s⟩)]
abbrev DZ:List Nat:=[1,3,7,5]
abbrev Oi (n:Nat) (k:Nat→Rat) (s:Nat):List AV:=[.ptr 0 0 1 0 [],.ptr 1 0 1 0 [],.func Cc [.bH (aV k n s)],.ptr 3 0 3 0 []]
noncomputable abbrev pY:Code:=au vk
def CY:Code→Code×Code
 |.block _ (.rangeFunc _ _ x y)=>(x,y)
 |_=>(.skip,.skip)
noncomputable abbrev JO:Code:=(CY (part pY [1,1,0,1])).1
noncomputable abbrev Pu:Code:=(CY (part pY [1,1,0,1])).2
theorem adh {n s:Nat} {k:Nat→Rat}:aK T vX [] 60 x6 (before pY [1,1,0,1]) ⟨aN 0 [aV k n s],[],0⟩=
  let c1:AV:=aj 3 n fun i↦rat (k i) s;some (ag [(0:Nat)<1] (leaf normal ([ptr 0 0 (aU (aV k n s)).size 0 [],ptr 8192 0 1 0 [],func Al [c1.bH]],[((8192:Nat),ah.mk false true 1 1 fun x↦nil),((0:Nat),ah.mk false true (aU (aV k n s)).size 1 fun x↦c1)]))):=by kernel_rfl
theorem ah1 {n s w i:Nat} {k x:Nat→Rat} {u:Int} {v:Rat}:aK T vX [] 60 DZ [JO] ⟨aB (x6++[8,9]) (HI n k s++[.int .i64 u,.rat v s]),wC n k s i x w,3⟩=
  let c1:AV:=aj 3 n fun i↦rat (k i) s;some (ag [(0:Nat)<1] (leaf normal ([ptr 0 0 1 0 [],ptr 1 0 1 0 [],func Al [c1.bH],ptr 3 0 3 0 []],[((2:Nat),ah.mk true true 3 i fun i↦rat (x i) w),((3:Nat),ah.mk false true 3 1 fun j↦if(j==0)=true then aU (rat v s)else rat 0 1),((1:Nat),ah.mk false true 1 1 fun x↦own 2 3 0 i),((0:Nat),ah.mk false true 1 1 fun x↦c1)]))):=by kernel_rfl
theorem acJ {n s w i:Nat} {k x:Nat→Rat} {v:Rat}:aK T vX [] 60 x6 [Pu] ⟨aB DZ (Oi n k s),(3,tP v s)::wC n k s i x w,4⟩=
  let c4:AV:=aj 3 n fun i↦rat (k i) s;let c3:Nat:=2^42;let c2:Int:=(↑n:Int)-(1:Int);let c1:Prop:=0<1;some (ag [c1,c1,(0:Int)≤(0:Int)∧Int.toNat (0:Int)<n,c1,c1,-(2:Int)^63≤c2∧c2<(2:Int)^63,(0:Int)≤c2∧c2.toNat<n,s<c3,s<c3,c1,s+s+1<c3,s<c3,(1:Nat)*3≤2^24,(i+1)*((56:Nat)+1)*2≤2^47,c1] (leaf normal ([ptr 0 0 1 0 [],ptr 1 0 1 0 [],func Al [c4.bH]],[((57348:Nat),ah.mk true true 3 (i+1) fun i_1↦if i_1<i then rat (x i_1) w else nth [rat (k (Int.toNat (0:Int))+k c2.toNat-v) (s+s+1+s+1)] (rat 0 1) (i_1-i+0)),((1:Nat),ah.mk false true 1 1 fun j↦if(j==0)=true then aU (own (nat_lit 57347+1) 3 0 (i+1))else own 2 3 0 i),((0:Nat),ah.mk false true 1 1 fun x↦c4)]))):=by kernel_rfl
theorem ajG {n s w i:Nat} {k x:Nat→Rat}:bW T vX [] 60 vk [part pY [1,1,1]] ⟨aB x6 (HI n k s),wC n k s i x w,3⟩=
  some (ag [(0:Nat)<1] (leaf ret [aj 3 i fun i↦rat (x (i+0)) w])):=by kernel_rfl
theorem PN:aX P vX:=cC (aJ (gj hT (iz bn) hm abT _ _) fC)
theorem ajB {n s w:Nat} {k:Nat→Rat} (h:3*s+2≤w) (hw:w<2^40) (hn:n<2^40) (K:Nat):aA P AM K [aV k n s] [] (aI (aV (fG n k) n w) []):=by
 refine K4 (r:=aI (aV (fG n k) n w) []) hT Ll rfl (of_decide_eq_true (by kernel_rfl)) rfl (fun _ cx hro hk=>?_) K []
 refine aq.Ni hT PN hm (x:=pY) (assign:=JO) (body:=Pu) (g:=7) (p0:=8) (p1:=9) [1,1,0,1] (i:=0) (by kernel_rfl) (by kernel_rfl) Ll.dst hro hk EV.enters (RE (s:=s) (k:=k) (by omega)) (of_decide_eq_true (by kernel_rfl)) (of_decide_eq_true (by kernel_rfl)) (by decide) (f1:=[]) (f2:=[]) (f3:=[])
  60 x6 DZ (HI n k s) (fun _=>rfl) rfl (fun i=>wC n k s i (fG n k) w) 3 4 (fun _=>Oi n k s) (fun i=>(3,tP (k (n-1-i)) s)::wC n k s i (fG n k) w) [0,1] ⟨_,adh,?_⟩ (fun i hi=>⟨_,ah1,?_⟩) (fun i hi=>⟨_,acJ,?_⟩) ?_
 ·simp only[aa.all,ax]
  exact⟨by omega,trivial,[(0,0),(1,8192)],rfl,rfl,rfl,jy rfl (by omega) (by omega) (aF rfl rfl (.inl (.inl ⟨rfl,rfl⟩)) (aF rfl rfl (aD rfl rfl) trivial))⟩
 ·simp only[aa.all,ax]
  exact⟨by omega,trivial,[(0,0),(1,1),(2,2),(3,3)],rfl,rfl,rfl,aF rfl rfl (aD rfl rfl) (aW rfl rfl rfl (fun _ _=>aD rfl rfl) (aF rfl rfl (.inl (.inl ⟨rfl,rfl⟩)) (aF rfl rfl (aD rfl rfl) trivial)))⟩
 ·simp only[aa.all,ax,Int.toNat_zero]
  refine⟨by omega,trivial,[(0,0),(1,1),(2,57348)],rfl,rfl,rfl,aW rfl rfl rfl (fun j hj=>lZ (fun _ _=>rfl) ?_ (Nat.le_refl _) (by omega) hj) (aF rfl rfl (.inl (.inl ⟨rfl,rfl⟩)) (aF rfl rfl (aD rfl rfl) trivial))⟩
  rw[show((n:Int)-1).toNat=n-1 by omega];rfl
 ·rw[show behind pY [1,1,0,1]=[part pY [1,1,1]]from by kernel_rfl]
  exact(aE.fin hT PN hm 60 ajG (by kernel_rfl) (by simp only[aa.all,ax];exact⟨by omega,.refl _⟩)).mono fun _ _ h=>.inl h
theorem Vy {s w:Nat} (h:3*s+2≤w) (hw:w<2^40):∀K args pre q,Bv s w K args pre=some q→aA P AM K args pre q:=cz fun⟨⟨n,k⟩,_⟩ K hn=>ajB h hw hn K
end Go.Am.B

/- ref10.Mirror, g8.Mirror. -/
namespace Go.Am.B
open Go Go.Am.N AV aa ak IntKind
abbrev Ns:FuncId:=Ng
abbrev Co:FuncId:=xR
noncomputable abbrev pQ:Code:=au Ff
theorem Qq:aO P Ns Bw (au Bw):=aP TY (by kernel_rfl) (by kernel_rfl) (by kernel_rfl)
theorem F0:aO P Co Ff pQ:=aP V9 (by kernel_rfl) (by kernel_rfl) (by kernel_rfl)
theorem Px:aO P vR AI (au AI):=aP aei (by kernel_rfl) (by kernel_rfl) (by kernel_rfl)
theorem ae4:aO P Ap xB (au xB):=aP Tq (by kernel_rfl) (by kernel_rfl) (by kernel_rfl)
noncomputable abbrev ID:Nat:=loadT (cM pQ [0] 0)
noncomputable abbrev L6:Nat:=loadT (cM pQ [1,0,0,1,0,0,0] 5)
noncomputable abbrev bpI:Nat:=Is (cM pQ [0] 2)
theorem afT:Ev pQ ID L6 bpI:=⟨by kernel_rfl,⟨by kernel_rfl,by kernel_rfl,by kernel_rfl⟩,⟨by kernel_rfl,by kernel_rfl,by kernel_rfl⟩,⟨by kernel_rfl,by kernel_rfl,by kernel_rfl⟩,⟨by kernel_rfl,by kernel_rfl,by kernel_rfl⟩,⟨by kernel_rfl,by kernel_rfl,by kernel_rfl⟩,⟨by kernel_rfl,by kernel_rfl,by kernel_rfl⟩,⟨by kernel_rfl,by kernel_rfl,by kernel_rfl⟩,⟨by kernel_rfl,by kernel_rfl,by kernel_rfl⟩,⟨by kernel_rfl,by kernel_rfl,by kernel_rfl⟩,⟨by kernel_rfl,by kernel_rfl,by kernel_rfl⟩,⟨by kernel_rfl,by kernel_rfl,by kernel_rfl⟩,⟨by kernel_rfl,by kernel_rfl,by kernel_rfl⟩,
 ⟨PZ (cM pQ [1,0,0,1,0,0,0] 6),by kernel_rfl,by kernel_rfl,by kernel_rfl⟩,⟨N7 (cM pQ [1,0,0,1,0,0,0] 7),by kernel_rfl,by kernel_rfl,by kernel_rfl⟩,⟨by kernel_rfl,by kernel_rfl,by kernel_rfl⟩,⟨by kernel_rfl,by kernel_rfl,by kernel_rfl⟩,⟨by kernel_rfl,by kernel_rfl,by kernel_rfl⟩⟩
theorem ad2 {n s:Nat} {f:Nat→Pl} (hn:n<2^62):vq P Co [.bH (eZ f n s)] n (fun i=>.int .i64 ((n:Int)-1-i)) (fun i=>bw (f (n-1-i)) s):=
 MZ hT (tiS:=(look ID T).getD ⟨.bool,0,0,.nil⟩) (tiE:=(look L6 T).getD ⟨.bool,0,0,.nil⟩) (by kernel_rfl) (by kernel_rfl) (by kernel_rfl) (by kernel_rfl) F0.get F0.body (by kernel_rfl) (by kernel_rfl) afT (f:=fun i=>bw (f i) s) hn (by kernel_rfl) fun i hi=>⟨rfl,rfl⟩
def wG (c:Cu):Cu:=⟨c.p,c.n,fG c.n c.k,c.m,fun j=>c.f (c.m-1-j)⟩
noncomputable def Ox:aR:=[(DV,fW T (sG::eU) [] 60 DX)]
noncomputable def Ls:aR:=[(GC,fW T (sG::Ox) [] 60 FW)]
noncomputable def Eg:aR:=[(N8,fW T (sG::(Ls++eU)) [] 60 JL)]
noncomputable def um (s w:Nat):aR:=nG::(Ns,fW T [sG] [] 20 Bw)::(AM,Bv s w)::Eg
noncomputable def Dd (s w:Nat):aR:=nG::(xF,Bv s w)::[]
abbrev wR:List Nat:=[1,2,3,14]
abbrev Ga (c:Cu) (r:Nat):List AV:=[.ptr 0 0 3 0 [],.ptr 1 0 3 0 [],.ptr 2 0 3 0 [],.func Co [.bH (eZ c.f c.m r)]]
abbrev nR (c:Cu) (s r y w i:Nat):aC:=[(3,⟨true,true,12,i,fun j=>bw (c.f (c.m-1-j)) w⟩),(2,⟨false,true,3,1,fun _=>.agg [.int .i64 c.p,aV (fG c.n c.k) c.n y,.own 3 12 0 i]⟩),(1,⟨false,true,3,1,fun _=>.agg [.int .i64 0,.nil,.nil]⟩),(0,⟨false,true,3,1,fun _=>bE c s r⟩)]
abbrev GF:List Nat:=[1,2,3,14,5]
abbrev Ik (c:Cu) (r:Nat):List AV:=[.ptr 0 0 3 0 [],.ptr 1 0 3 0 [],.ptr 2 0 3 0 [],.func Co [.bH (eZ c.f c.m r)],.ptr 4 0 12 0 []]
noncomputable abbrev qB:Code:=au AI
noncomputable abbrev LS:Code:=(CY (part qB [1,1,0,1])).1
noncomputable abbrev Mc:Code:=(CY (part qB [1,1,0,1])).2
abbrev L8 (p:Pl) (s:Nat):ah:=⟨false,true,12,1,fun _=>bw p s⟩
abbrev vD:List Nat:=[1,2,3,4]
abbrev zM (i:Int):List AV:=[.ptr 0 0 3 0 [],.ptr 1 0 3 0 [],.ptr 2 0 3 0 [],.int .i64 i]
noncomputable abbrev xg:Code:=au xB
theorem aeT {c:Cu} {s r y:Nat}:aK T (um s y) [] 60 wR (before qB [1,1,0,1]) ⟨aN 0 [bE c s r],[],0⟩=
  let c3:Prop:=0<1;let c2:AV:=agg [int i64 (0:Int),nil,nil];let c1:AV:=aj 12 c.m fun i↦agg [agg [rat (c.f i).n.x r,rat (c.f i).n.y r,rat (c.f i).n.z r],rat (c.f i).d r];some (ag [c3,c3,bP (fun i↦rat (c.k i) s) c.n s,c.n<2^40,c3] (ag [c3] (leaf normal ([ptr 0 0 (aU (bE c s r)).size 0 [],ptr 4096 0 3 0 [],ptr 32768 0 3 0 [],func xR [c1.bH]],[((32768:Nat),ah.mk false true 3 1 fun j↦if(j==0)=true then aU (agg ((c2.kids.set 0 (aU (int i64 c.p))).set 1 (aU (aV (fG c.n fun i↦aT (rat (c.k i) s)) c.n y))))else c2),((4096:Nat),ah.mk false true 3 1 fun x↦c2),((0:Nat),ah.mk false true (aU (bE c s r)).size 1 fun x↦agg [int i64 c.p,aj 3 c.n fun i↦rat (c.k i) s,c1])])))):=by kernel_rfl
theorem R7 {c:Cu} {s r y w i:Nat} {u:Int} {v:Pl}:aK T (um s y) [] 60 GF [LS] ⟨aB (wR++[15,16]) (Ga c r++[.int .i64 u,bw v r]),nR c s r y w i,4⟩=
  let c3:Nat:=c.m-1;let c2:AV:=rat 0 1;let c1:AV:=aj 12 c.m fun i↦agg [agg [rat (c.f i).n.x r,rat (c.f i).n.y r,rat (c.f i).n.z r],rat (c.f i).d r];some (ag [(0:Nat)<1] (leaf normal ([ptr 0 0 3 0 [],ptr 1 0 3 0 [],ptr 2 0 3 0 [],func xR [c1.bH],ptr 4 0 12 0 []],[((3:Nat),ah.mk true true 12 i fun j↦agg [agg [rat (c.f (c3-j)).n.x w,rat (c.f (c3-j)).n.y w,rat (c.f (c3-j)).n.z w],rat (c.f (c3-j)).d w]),((4:Nat),ah.mk false true 12 1 fun j↦if(j==0)=true then aU (bw v r)else agg [agg [c2,c2,c2],c2]),((2:Nat),ah.mk false true 3 1 fun x↦agg [int i64 c.p,aj 3 c.n fun i↦rat (fG c.n c.k i) y,own 3 12 0 i]),((1:Nat),ah.mk false true 3 1 fun x↦agg [int i64 (0:Int),nil,nil]),((0:Nat),ah.mk false true 3 1 fun x↦agg [int i64 c.p,aj 3 c.n fun i↦rat (c.k i) s,c1])]))):=by kernel_rfl
theorem T9 {c:Cu} {s r y w i:Nat} {v:Pl}:aK T (um s y) [] 60 wR [Mc] ⟨aB GF (Ik c r),(4,L8 v r)::nR c s r y w i,5⟩=
  let c6:AV:=rat 0 1;let c5:Nat:=r+1+1;let c4:AV:=agg [int i64 c.p,aV (fG c.n c.k) c.n y,own 3 12 0 i];let c3:Prop:=0<1;let c2:AV:=aj 12 c.m fun i↦agg [agg [rat (c.f i).n.x r,rat (c.f i).n.y r,rat (c.f i).n.z r],rat (c.f i).d r];let c1:Nat:=2^42;let c7:Prop:=1<c1;some (ag [c3,c3,r<c1,c7,r<c1,c7,r<c1,c7,c3,c3,r<c1,c7,c3,(1:Nat)*12≤2^24,(i+1)*((224:Nat)+1)*2≤2^47,c3] (leaf normal ([ptr 0 0 3 0 [],ptr 1 0 3 0 [],ptr 2 0 3 0 [],func xR [c2.bH]],[((20485:Nat),ah.mk true true 12 (i+1) fun i_1↦if i_1<i then bw (c.f (c.m-1-i_1)) w else nth [agg [agg [rat (v.n.x+0) c5,rat (v.n.y+0) c5,rat (v.n.z+0) c5],rat (v.d+0) c5]] (agg [agg [c6,c6,c6],c6]) (i_1-i+0)),((2:Nat),ah.mk false true 3 1 fun j↦if(j==0)=true then agg (c4.kids.set 2 (aU (own (nat_lit 20484+1) 12 0 (i+1))))else c4),((1:Nat),ah.mk false true 3 1 fun x↦agg [int i64 (0:Int),nil,nil]),((0:Nat),ah.mk false true 3 1 fun x↦agg [int i64 c.p,aj 3 c.n fun i↦rat (c.k i) s,c2])]))):=by kernel_rfl
theorem ajk {c:Cu} {s r y w i:Nat}:bW T (um s y) [] 60 AI [part qB [1,1,1]] ⟨aB wR (Ga c r),nR c s r y w i,4⟩=
  let c2:Prop:=0<1;let c1:Nat:=c.m-1;some (ag [c2,c2] (ag [c2] (leaf ret [agg [int i64 c.p,aj 3 c.n fun i↦rat (fG c.n c.k i) y,aj 12 i fun i↦agg [agg [rat (c.f (c1-(i+0))).n.x w,rat (c.f (c1-(i+0))).n.y w,rat (c.f (c1-(i+0))).n.z w],rat (c.f (c1-(i+0))).d w]]]))):=by kernel_rfl
theorem Vn {c:Cu} {s r y:Nat}:aK T (Dd s y) [] 60 vD (before xg [1,1,0,1]) ⟨aN 0 [bE c s r],[],0⟩=
  let c3:Int:=(↑c.m:Int)-(1:Int);let c2:Prop:=0<1;let c1:AV:=agg [int i64 (0:Int),nil,nil];some (ag [c2,c2,bP (fun i↦rat (c.k i) s) c.n s,c.n<2^40,c2] (ag [c2,-(2:Int)^63≤c3∧c3<(2:Int)^63] (leaf normal ([ptr 0 0 (aU (bE c s r)).size 0 [],ptr 4096 0 3 0 [],ptr 32768 0 3 0 [],int i64 c3],[((32768:Nat),ah.mk false true 3 1 fun j↦if(j==0)=true then aU (agg ((c1.kids.set 0 (aU (int i64 c.p))).set 1 (aU (aV (fG c.n fun i↦aT (rat (c.k i) s)) c.n y))))else c1),((4096:Nat),ah.mk false true 3 1 fun x↦c1),((0:Nat),ah.mk false true (aU (bE c s r)).size 1 fun x↦agg [int i64 c.p,aj 3 c.n fun i↦rat (c.k i) s,aj 12 c.m fun i↦agg [agg [rat (c.f i).n.x r,rat (c.f i).n.y r,rat (c.f i).n.z r],rat (c.f i).d r]])])))):=by kernel_rfl
theorem aju {c:Cu} {s r y w i:Nat} {j:Int}:aK T (Dd s y) [16] 60 vD [part xg [1,1,0,1,0,0]] ⟨aB vD (zM j),nR c s r y w i,4⟩=
  let c10:Pl:=c.f j.toNat;let c9:AV:=own 3 12 0 i;let c8:Prop:=0<1;let c7:AV:=ptr 2 0 3 0 [];let c6:AV:=ptr 1 0 3 0 [];let c5:AV:=ptr 0 0 3 0 [];let c4:Nat:=c.m-1;let c3:AV:=rat 0 1;let c1:List (Nat×ah):=[((1:Nat),ah.mk false true 3 1 fun x↦agg [int i64 (0:Int),nil,nil]),((0:Nat),ah.mk false true 3 1 fun x↦agg [int i64 c.p,aj 3 c.n fun i↦rat (c.k i) s,aj 12 c.m fun i↦agg [agg [rat (c.f i).n.x r,rat (c.f i).n.y r,rat (c.f i).n.z r],rat (c.f i).d r]])];let c2:AV:=agg [int i64 c.p,aV (fG c.n c.k) c.n y,c9];some (fork (decide (j≥(0:Int))) (ag [c8,c8,(0:Int)≤j∧j.toNat<c.m,(1:Nat)*12≤2^24,(i+1)*((224:Nat)+1)*2≤2^47,c8] (ag [-(2:Int)^63≤j-(1:Int)∧j-(1:Int)<(2:Int)^63] (leaf normal ([c5,c6,c7,int i64 (j-(1:Int))],((40964:Nat),ah.mk true true 12 (i+1) fun i_1↦if i_1<i then bw (c.f (c4-i_1)) w else nth [agg [agg [rat c10.n.x r,rat c10.n.y r,rat c10.n.z r],rat c10.d r]] (agg [agg [c3,c3,c3],c3]) (i_1-i+0))::((2:Nat),ah.mk false true 3 1 fun j↦if(j==0)=true then agg (c2.kids.set 2 (aU (own (nat_lit 40963+1) 12 0 (i+1))))else c2)::c1)))) (leaf (exit 0) ([c5,c6,c7,int i64 j],((3:Nat),ah.mk true true 12 i fun j↦agg [agg [rat (c.f (c4-j)).n.x w,rat (c.f (c4-j)).n.y w,rat (c.f (c4-j)).n.z w],rat (c.f (c4-j)).d w])::((2:Nat),ah.mk false true 3 1 fun x↦agg [int i64 c.p,aj 3 c.n fun i↦rat (fG c.n c.k i) y,c9])::c1))):=by kernel_rfl
theorem QB {c:Cu} {s r y w i:Nat} {j:Int}:bW T (Dd s y) [] 60 xB [part xg [1,1,1]] ⟨aB vD (zM j),nR c s r y w i,4⟩=
  let c2:Prop:=0<1;let c1:Nat:=c.m-1;some (ag [c2,c2] (ag [c2] (leaf ret [agg [int i64 c.p,aj 3 c.n fun i↦rat (fG c.n c.k i) y,aj 12 i fun i↦agg [agg [rat (c.f (c1-(i+0))).n.x w,rat (c.f (c1-(i+0))).n.y w,rat (c.f (c1-(i+0))).n.z w],rat (c.f (c1-(i+0))).d w]]]))):=by kernel_rfl
theorem Wq:aX P Ox:=aJ (gj hT (iz fC) hm (aP MH (by kernel_rfl) (by kernel_rfl) (by kernel_rfl)) _ _) bn
theorem aib:aX P Ls:=aJ (gj hT (iz Wq) hm (aP N9 (by kernel_rfl) (by kernel_rfl) (by kernel_rfl)) _ _) bn
theorem PW:aX P Eg:=aJ (gj hT (iz (mq aib fC)) hm (aP YI (by kernel_rfl) (by kernel_rfl) (by kernel_rfl)) _ _) bn
theorem LJ {s y:Nat} (h:3*s+2≤y) (hy:y<2^40):aX P (um s y):=cC (aJ (gj hT (iz bn) hm Qq _ _) (aJ (Vy h hy) PW))
theorem XK {s y:Nat} (h:3*s+2≤y) (hy:y<2^40):aX P (Dd s y):=cC (aJ (aiq h hy) bn)
theorem tu (c:Cu) (s r:Nat):(aU (bE c s r)).size=3:=by kernel_rfl
theorem CQ {rl:List (Nat×Nat)} {c:Cu} {y a i:Nat} (h:aS rl 3=some a):fc rl (.agg [.int .i64 c.p,aV (fG c.n c.k) c.n y,.own a 12 0 i]) (.agg [.int .i64 c.p,aV (fG c.n c.k) c.n y,.own 3 12 0 i]):=
 gv ⟨⟨rfl,aG rfl⟩,⟨rfl,aG rfl⟩,⟨rfl,bY h rfl rfl⟩,trivial⟩
def DI (s r y w:Nat):Spec:=cJ (kC (gx s r) kN) (fun a=>bE (wG a.1) y w) fun a=>[a.1.n<2^30,a.1.m<2^30]
theorem Rl {c:Cu} {s r y w:Nat} (h1:3*s+2≤y) (hy:y<2^40) (h2:r+2≤w) (hw:w<2^40) (hn:c.n<2^30) (hm2:c.m<2^30) (K:Nat):aA P vR K [bE c s r] [] (aI (bE (wG c) y w) []):=by
 refine K4 (r:=aI (bE (wG c) y w) []) hT Px rfl (of_decide_eq_true (by kernel_rfl)) rfl (fun _ cx hro hk=>?_) K []
 refine aq.Ni hT (LJ h1 hy) hm (x:=qB) (assign:=LS) (body:=Mc) (g:=14) (p0:=15) (p1:=16) [1,1,0,1] (i:=0) (by kernel_rfl) (by kernel_rfl) Px.dst hro hk F0.enters (ad2 (s:=r) (f:=c.f) (by omega)) (of_decide_eq_true (by kernel_rfl)) (of_decide_eq_true (by kernel_rfl)) (by decide) (f1:=[]) (f2:=[]) (f3:=[])
  60 wR GF (Ga c r) (fun _=>rfl) rfl (fun i=>nR c s r y w i) 4 5 (fun _=>Ik c r) (fun i=>(4,L8 (c.f (c.m-1-i)) r)::nR c s r y w i) [0,1,2] ⟨_,aeT,?_⟩ (fun i hi=>⟨_,R7,?_⟩) (fun i hi=>⟨_,T9,?_⟩) ?_
 ·simp only[aa.all,ax]
  rw[tu c s r]
  exact⟨⟨by omega,by omega,cU (Nat.le_refl _),by omega,by omega⟩,by omega,trivial,[(0,0),(1,4096),(2,32768)],rfl,rfl,rfl,jy rfl (by omega) (by omega) (aF rfl rfl (gv ⟨⟨rfl,aG rfl⟩,⟨rfl,aG rfl⟩,⟨rfl,me (by omega)⟩,trivial⟩) (aF rfl rfl (aD rfl rfl) (aF rfl rfl (aD rfl rfl) trivial)))⟩
 ·simp only[aa.all,ax]
  exact⟨by omega,trivial,[(0,0),(1,1),(2,2),(3,3),(4,4)],rfl,rfl,rfl,aF rfl rfl (aD rfl rfl) (aW rfl rfl rfl (fun _ _=>aD rfl rfl) (aF rfl rfl (CQ rfl) (aF rfl rfl (aD rfl rfl) (aF rfl rfl (aD rfl rfl) trivial))))⟩
 ·simp only[aa.all,ax,Int.toNat_zero]
  refine⟨?_,trivial,[(0,0),(1,1),(2,2),(3,20485)],rfl,rfl,rfl,aW rfl rfl rfl (fun k hk=>oB (y:=fun j=>c.f (c.m-1-j)) (fun _ _=>rfl) (s':=w) ?_ rfl (Nat.le_refl _) (Nat.le_refl _) hk) (aF rfl rfl (CQ rfl) (aF rfl rfl (aD rfl rfl) (aF rfl rfl (aD rfl rfl) trivial)))⟩
  ·(repeat' with_reducible refine And.intro ?_ ?_)<;>omega
  ·exact bQ ⟨bQ ⟨bp (Rat.add_zero _) (by omega),bp (Rat.add_zero _) (by omega),bp (Rat.add_zero _) (by omega),trivial⟩,bp (Rat.add_zero _) (by omega),trivial⟩
 ·rw[show behind qB [1,1,0,1]=[part qB [1,1,1]]from by kernel_rfl]
  exact(aE.fin hT (LJ h1 hy) hm 60 ajk (by kernel_rfl) (by simp only[aa.all,ax];exact⟨by omega,by omega,.refl _⟩)).mono fun _ _ h=>.inl h
theorem ai7 {c:Cu} {s r y:Nat} (h1:3*s+2≤y) (hy:y<2^40) (hn:c.n<2^30) (hm2:c.m<2^30) (K:Nat):aA P Ap K [bE c s r] [] (aI (bE (wG c) y r) []):=by
 refine fK (r:=aI (bE (wG c) y r) []) hT (XK h1 hy) hm ae4 rfl (of_decide_eq_true (by kernel_rfl)) rfl [1,1,0,1] (i:=0) (y:=part xg [1,1,0,1,0,0]) (z:=part xg [1,1,1]) (by kernel_rfl) (by kernel_rfl) (by kernel_rfl) (f1:=[]) (f2:=[16]) (f3:=[]) 60 vD 4
  (fun i:Nat=>zM ((c.m:Int)-1-i)) (fun i=>nR c s r y r i) (fun i=>i≤c.m) (fun i=>i=c.m) (fun i=>c.m-i) (fun _=>⟨⟨_,Vn,?_⟩,fun i hi=>⟨_,aju,?_⟩,fun i hi=>⟨_,QB,?_⟩⟩) K []
 ·simp only[aa.all,ax]
  rw[tu c s r]
  exact⟨⟨by omega,by omega,cU (Nat.le_refl _),by omega,by omega⟩,⟨by omega,by omega⟩,0,by omega,[(0,0),(1,4096),(2,32768)],rfl,by show _=(zM ((c.m:Int)-1-((0:Nat):Int))).map _;rw[show(c.m:Int)-1-((0:Nat):Int)=(c.m:Int)-1 by omega];rfl,rfl,jy rfl (by omega) (by omega) (aF rfl rfl (gv ⟨⟨rfl,aG rfl⟩,⟨rfl,aG rfl⟩,⟨rfl,me (by omega)⟩,trivial⟩) (aF rfl rfl (aD rfl rfl) (aF rfl rfl (aD rfl rfl) trivial)))⟩
 ·simp only[aa.all,ax,decide_eq_true_eq,decide_eq_false_iff_not,Int.toNat_natCast,Nat.add_zero,Int.toNat_zero]
  refine⟨fun h1=>⟨⟨by omega,by omega,by omega,by omega,by omega,by omega⟩,by omega,i+1,by omega,by dsimp only;omega,[(0,0),(1,1),(2,2),(3,40964)],rfl,by show _=(zM ((c.m:Int)-1-((i+1:Nat):Int))).map _;rw[show(c.m:Int)-1-((i+1:Nat):Int)=(c.m:Int)-1-i-1 by omega];rfl,rfl,aW rfl rfl rfl (fun k hk=>oB (y:=fun j=>c.f (c.m-1-j)) (fun _ _=>rfl) (s':=r) ?_ rfl (Nat.le_refl _) (Nat.le_refl _) hk) (aF rfl rfl (CQ rfl) (aF rfl rfl (aD rfl rfl) (aF rfl rfl (aD rfl rfl) trivial)))⟩,
   fun h1=>⟨rfl,i,by omega,[(0,0),(1,1),(2,2),(3,3)],rfl,rfl,rfl,aW rfl rfl rfl (fun _ _=>aD rfl rfl) (aF rfl rfl (CQ rfl) (aF rfl rfl (aD rfl rfl) (aF rfl rfl (aD rfl rfl) trivial)))⟩⟩
  rw[show((c.m:Int)-1-i).toNat=c.m-1-i by omega]
  exact .refl _
 ·subst hi
  simp only[aa.all,ax]
  exact⟨by omega,by omega,.refl _⟩
theorem UY {s r y w:Nat} (h1:3*s+2≤y) (hy:y<2^40) (h2:r+2≤w) (hw:w<2^40):∀K args pre q,DI s r y w K args pre=some q→aA P vR K args pre q:=cz fun⟨c,_⟩ K hn=>Rl h1 hy h2 hw hn.1 hn.2 K
theorem Q5 {s r y:Nat} (h1:3*s+2≤y) (hy:y<2^40):∀K args pre q,DI s r y r K args pre=some q→aA P Ap K args pre q:=cz fun⟨c,_⟩ K hn=>ai7 h1 hy hn.1 hn.2 K
end Go.Am.B

/- Parts of spans; where a parameter within a span lies. -/
namespace Go.Am.B
open Go Go.Am.N AV aa ak IntKind
end Go.Am.B

/- law08: made, awake; rational.Make. -/
namespace Go.Am.B
open Go Go.Am.N AV aa ak IntKind
abbrev zz (z:Nat→Int):Nat→AV:=fun i=>.int .i64 (z i)
end Go.Am.B

/- fJ.Greville. -/
namespace Go.Am.B
open Go Go.Am.N AV aa ak IntKind
end Go.Am.B

/- slices.Insert of one number xj a list of just its capacity; fJ.Insert, ref08.Insert. -/
namespace Go.Am.B
open Go Go.Am.N AV aa ak IntKind
theorem adR {c:Nat} {u v:AV} (hv:v.isAgg=false) (h:bA u v):bA (.bD c u) (.bD c v):=by
 refine⟨rfl,fun M w cs hc=>?_⟩
 cases hc with
 |bD _ h1 h2=>cases h2;exact .bD hv (h.2 _ _ _ h1) .nil
def Xr (s:Nat):Kind (Nat×(Nat→Rat)):=⟨fun v=>match v with
 |.bD c v=>match(kL s).read v with
  |some (a,q)=>some (a,(c=a.1)::q)
  |none=>none
 |_=>none,fun a=>.bD a.1 (aV a.2 a.1 s),fun {v a q} h hq=>by
  split at h
  ·split at h
   ·rename_i h1
    simp only[Option.some.injEq,Prod.mk.injEq]at h
    obtain⟨rfl,rfl⟩:=h
    obtain⟨q1,q2⟩:=Df.1 hq
    subst q1
    exact adR rfl ((kL s).ok h1 q2)
   ·simp at h
  ·simp at h⟩
abbrev BW:FuncId:=HU
noncomputable abbrev B8:Func:=II
def gD (k:Nat→Rat) (t:Rat):Nat→Nat
 |0=>0
 |n+1=>if gD k t n=n∧k n≤t then n+1 else gD k t n
def jd (k:Nat→Rat) (t:Rat) (p j:Nat):Rat:=if j<p then k j else if j=p then t else k (j-1)
abbrev AD:List Nat:=[3,9,10,11]
abbrev DJ (n:Nat) (k:Nat→Rat) (s i:Nat):List AV:=[.bD n (.own 0 3 0 i),aV k n s,.int .i64 n,.int .i64 i]
abbrev Cl:aR:=cG::eU
abbrev uN:List Nat:=[0,3,5]
abbrev F4 (n:Nat) (k:Nat→Rat) (s i:Nat):List AV:=[aV k n s,.ptr 0 0 3 0 [],.int .i64 i]
noncomputable abbrev zc:Code:=au uj
def LH (w:Nat):Spec:=cJ (kC (Xr w) (kC kI (kC (kL w) kN))) (fun a=>aV (jd a.1.2 (a.2.2.1.2 0) a.2.1.toNat) (a.1.1+1) w) fun a=>[0≤a.2.1,a.2.1≤a.1.1,a.2.2.1.1=1,a.1.1<2^40]
def Nn (s w:Nat):Spec:=cJ (kC (kL s) kN) (fun a=>.bD a.1.1 (aV a.1.2 a.1.1 w)) fun a=>[a.1.1<2^40]
def B9 (s w:Nat):aR:=cG::(nM,Nn s w)::(BW,LH w)::eU
theorem aaY:aO P BW B8 (au B8):=aP XE (by kernel_rfl) (by kernel_rfl) (by kernel_rfl)
theorem aeG:aO P zF uj (au uj):=aP XS (by kernel_rfl) (by kernel_rfl) (by kernel_rfl)
theorem VM {n i s:Nat} {k:Nat→Rat} {t:Rat}:bC T [cG] [22,100031] 60 B8 (au B8) ⟨aN 0 [.bD n (aV k n s),.int .i64 i,aV (fun _=>t) 1 s],[],0⟩=
  let c11:Nat:=Int.toNat (0:Int);let c9:Int:=(↑n:Int);let c7:Int:=(2:Int)^63;let c4:Int:=(↑i:Int);let c14:Nat:=c4.toNat-c11;let c13:Prop:=(0:Int)≤c4;let c12:Nat:=0+c4.toNat;let c3:Int:=c9+(↑(1:Nat):Int);let c2:Int:=c4+(↑(1:Nat):Int);let c10:Nat:=0+c2.toNat;let c1:Nat:=c14+(c3-c4).toNat;let c8:Int:=(↑c1:Int);let c6:Nat:=c12+Min.min 1 (c8.toNat-c4.toNat);let c5:Nat:=c10+Min.min (c9.toNat-c4.toNat) (c8.toNat-c2.toNat);some (ag [c13∧c4≤c9∧c9≤c9] (fork (c4==c9) (ag [n<n+1∧(n+1)*((56:Nat)+1)*2≤2^47] (leaf ret [aj 3 (n+1) fun i↦if i+0<n then rat (k (i+0)) s else rat t s])) (ag [-c7≤c3∧c3<c7] (ag [decide (c3>c9)=true] (ag [(0:Int)≤(0:Int)∧c13∧c4≤c9,-c7≤c3∧c3<c7,-c7≤c3-c4∧c3-c4<c7,(0:Int)<c3-c4∧n-c11<c1∧c1*((56:Nat)+1)*2≤2^47] (ag [c13∧c4≤c8∧c8≤c8∧c8≤c8] (ag [-c7≤c2∧c2<c7,(0:Int)≤c2∧c2≤c8∧c8≤c8∧c8≤c8,c13∧c4≤c9∧c9≤c9] (leaf ret [aj 3 c1 fun i↦if c10≤i+0∧i+0<c5 then rat (k (i+0-c10+c4.toNat)) s else if c12≤i+0∧i+0<c6 then rat t s else if i+0<c14 then rat (k (i+0+c11)) s else rat 0 1])))))))):=by kernel_rfl
theorem ae8 {n s:Nat} {k:Nat→Rat}:aK T Cl [] 60 AD (before lE [1,1,0,1]) ⟨aN 0 [aV k n s],[],0⟩=
  let c1:Int:=(↑n:Int);some (ag [(0:Int)≤(0:Int)∧(0:Int)≤c1∧c1≤(2:Int)^47∧c1*(↑(56:Nat):Int)≤(2:Int)^47] (leaf normal ([bD c1.toNat (own 12288 3 0 0),aj 3 n fun i↦rat (k i) s,int i64 c1,int i64 (0:Int)],[((12288:Nat),ah.mk true true 3 0 fun x↦rat 0 1)]))):=by kernel_rfl
theorem ajR {n i s w:Nat} {k x:Nat→Rat}:aK T Cl [12] 60 AD [part lE [1,1,0,1,0,0]] ⟨aB AD (DJ n k s i),[(0,mD i x w)],1⟩=
  let c5:Int:=(↑n:Int);let c3:Nat:=i+1;let c2:AV:=aj 3 n fun i↦rat (k i) s;let c1:Int:=(↑i:Int);let c4:Int:=c1+(1:Int);some (fork (decide (c1<c5)) (ag [(0:Int)≤c1∧c1.toNat<n,(0:Nat)<1] (ag [(0:Nat)<1,s<2^42,(1:Nat)<2^42,(1:Nat)*3≤2^24,c3≤n,c3*((56:Nat)+1)*2≤2^47] (ag [-(2:Int)^63≤c4∧c4<(2:Int)^63] (leaf normal ([bD n (own 40961 3 0 c3),c2,int i64 c5,int i64 c4],[((40961:Nat),ah.mk true true 3 c3 fun i_1↦if i_1<i then rat (x i_1) w else nth [rat (k c1.toNat+0) (s+1+1)] (rat 0 1) (i_1-i+0))]))))) (leaf (exit 0) ([bD n (own 0 3 0 i),c2,int i64 c5,int i64 c1],[((0:Nat),ah.mk true true 3 i fun i↦rat (x i) w)]))):=by kernel_rfl
theorem af5 {n i s w:Nat} {k x:Nat→Rat}:bW T Cl [] 60 yU [part lE [1,1,1]] ⟨aB AD (DJ n k s i),[(0,mD i x w)],1⟩=
  some (leaf ret [bD n (aj 3 i fun i↦rat (x (i+0)) w)]):=by kernel_rfl
theorem Rb {n s r w:Nat} {k:Nat→Rat} {t:Rat}:aK T (B9 s w) [] 60 uN (before zc [1,1,0]) ⟨aN 0 [aV k n s,.rat t r],[],0⟩=
  some (leaf normal ([aj 3 n fun i↦rat (k i) s,ptr 0 0 (aU (rat t r)).size 0 [],int i64 (0:Int)],[((0:Nat),ah.mk false true (aU (rat t r)).size 1 fun x↦rat t r)])):=by kernel_rfl
theorem ahf {n i s r w:Nat} {k:Nat→Rat} {t:Rat}:aK T (B9 s w) [10,18] 60 uN [part zc [1,1,0,0,0]] ⟨aB uN (F4 n k s i),[(0,tP t r)],1⟩=
  let c7:AV:=aj 3 n fun i↦rat (k i) s;let c5:AV:=ptr 0 0 3 0 [];let c4:Nat×ah:=((0:Nat),ah.mk false true 3 1 fun x↦rat t r);let c3:Int:=(↑i:Int);let c8:Int:=c3+(1:Int);let c6:Bool:=decide (c3<(↑n:Int));let c2:aa (List AV×aC):=leaf (exit 0) ([c7,c5,int i64 c3],[c4]);let c1:aa (List AV×aC):=ag [-(2:Int)^63≤c8∧c8<(2:Int)^63] (leaf normal ([c7,c5,int i64 c8],[c4]));some (fork c6 (ag [c6=true,(0:Int)≤c3∧c3.toNat<n,(0:Nat)<1,s<2^42,r<2^42] (fork (bif true then decide (dZ (k c3.toNat) t≤(0:Int))else false) c1 c2)) (ag [c6=false] (fork false c1 c2))):=by kernel_rfl
theorem SH {n i s r w:Nat} {k:Nat→Rat} {t:Rat}:bW T (B9 s w) [] 60 uj [part zc [1,1,1]] ⟨aB uN (F4 n k s i),[(0,tP t r)],1⟩=
  let c3:AV:=rat 0 1;let c2:Prop:=n<2^40;let c1:AV:=rat (t+0) (r+1+1);some (ag [bP (fun i↦rat (k i) s) n s,c2,(0:Nat)<1,r<2^42,(1:Nat)<2^42,(1:Nat)*3≤2^24,n=n,bP (fun i↦rat (aT (rat (k i) s)) w) n w,bP (fun i↦nth [c1] c3 (i+0)) 1 w,(0:Int)≤(↑i:Int),(↑i:Int)≤(↑n:Int),(1:Nat)=1,c2] (leaf ret [aj 3 (n+1) fun i_1↦rat (jd (fun i↦aT (rat (aT (rat (k i) s)) w)) (aT (nth [c1] c3 ((0:Nat)+0))) (↑i:Int).toNat i_1) w])):=by kernel_rfl
theorem FK {Γ:aR} (h:aX P Γ):aX P (cG::Γ):=aJ (fun _ _ _ _ h=>nomatch h) h
theorem X6 {a b:Rat}:dZ a b≤(0:Int)↔a≤b:=by
 have:=@ug a b
 constructor
 ·intro h
  exact Rat.not_lt.1 fun h'=>by have:=ug.2 h';omega
 ·intro h
  have:¬dZ a b>0:=fun h'=>Rat.not_lt.2 h (ug.1 h')
  omega
theorem QM {k:Nat→Rat} {t:Rat} {n:Nat} (h:gD k t n=n) (h2:k n≤t):gD k t (n+1)=n+1:=by unfold gD;rw[if_pos ⟨h,h2⟩]
theorem Lv {k:Nat→Rat} {t:Rat} {i:Nat} (h:gD k t i=i) (h2:t<k i):∀{n:Nat},i≤n→gD k t n=i
 |0,hn=>by
    have:i=0:=by omega
    subst this;rfl
 |n+1,hn=>by
  by_cases he:i=n+1
  ·subst he;exact h
  ·have ih:=Lv h h2 (n:=n) (by omega)
   unfold gD
   rw[if_neg,ih]
   rintro⟨g1,g2⟩
   have:i=n:=by omega
   subst this
   exact absurd h2 (Rat.not_lt.2 g2)
theorem Yl {n i s:Nat} {k:Nat→Rat} {t:Rat} (hi:i≤n) (hn:n<2^40) (K:Nat):aA P BW K [.bD n (aV k n s),.int .i64 i,aV (fun _=>t) 1 s] [] (aI (aV (jd k t i) (n+1) s) []):=by
 refine bF (r:=aI (aV (jd k t i) (n+1) s) []) hT (FK bn) hm aaY rfl (of_decide_eq_true (by kernel_rfl)) rfl 60 VM (fun _=>?_) K []
 simp only[aa.all,ax,decide_eq_true_eq,decide_eq_false_iff_not]
 have w1:((1:Nat):Int)=1:=rfl
 simp only[w1,Int.toNat_natCast,Int.toNat_zero,Nat.sub_zero,Nat.zero_add,Nat.add_zero,beq_iff_eq,beq_eq_false_iff_ne,ne_eq,Int.ofNat_inj]
 refine⟨by omega,fun h=>⟨by omega,jh fun j hj=>cT ?_⟩,fun h=>?_⟩
 ·subst h
  unfold jd
  by_cases h1:j<i
  ·rw[if_pos h1,if_pos h1]
  ·rw[if_neg h1,if_neg h1,if_pos (by omega)]
 ·have eN:i+((n:Int)+1-i).toNat=n+1:=by omega
  have e2:((i:Int)+1).toNat=i+1:=by omega
  simp only[eN,e2]
  refine⟨by omega,by omega,by omega,by omega,by omega,jh fun j hj=>cT ?_⟩
  unfold jd
  by_cases h1:j<i
  ·rw[if_neg (by omega),if_neg (by omega),if_pos h1,if_pos h1]
  ·by_cases h2:j=i
   ·rw[if_neg (by omega),if_pos (by omega),if_neg h1,if_pos h2]
   ·rw[if_pos (by omega),if_neg h1,if_neg h2,show j-(i+1)+i=j-1 by omega]
theorem ahe:aX P Cl:=FK fC
theorem aka {n s w:Nat} {k:Nat→Rat} (h:s+2≤w) (hw:w<2^40) (hn:n<2^40) (K:Nat):aA P nM K [aV k n s] [] (aI (.bD n (aV k n w)) []):=by
 refine fK (r:=aI (.bD n (aV k n w)) []) hT ahe hm DR rfl (of_decide_eq_true (by kernel_rfl)) rfl [1,1,0,1] (i:=0) (y:=part lE [1,1,0,1,0,0]) (z:=part lE [1,1,1]) (by kernel_rfl) (by kernel_rfl) (by kernel_rfl) (f1:=[]) (f2:=[12]) (f3:=[]) 60 AD 1
  (fun i:Nat=>DJ n k s i) (fun i=>[(0,mD i k w)]) (fun i=>i≤n) (fun i=>i=n) (fun i=>n-i) (fun _=>⟨⟨_,ae8,?_⟩,fun i hi=>⟨_,ajR,?_⟩,fun i hi=>⟨_,af5,?_⟩⟩) K []
 ·simp only[aa.all,ax]
  exact⟨by omega,0,Nat.zero_le _,[(0,12288)],rfl,by rw[Int.toNat_natCast];rfl,rfl,aW rfl rfl rfl (fun j hj=>absurd hj (Nat.not_lt_zero j)) trivial⟩
 ·simp only[aa.all,ax,decide_eq_true_eq,decide_eq_false_iff_not,Int.toNat_natCast,Nat.add_zero]
  exact⟨fun h1=>⟨by omega,by omega,by omega,i+1,by omega,by dsimp only;omega,[(0,40961)],rfl,rfl,rfl,aW rfl rfl rfl (fun j hj=>lZ (fun _ _=>rfl) (Rat.add_zero _) (Nat.le_refl _) (by omega) hj) trivial⟩,
   fun h1=>⟨rfl,i,by omega,[(0,0)],rfl,rfl,rfl,aW rfl rfl rfl (fun _ _=>aD rfl rfl) trivial⟩⟩
 ·subst hi
  simp only[aa.all,ax]
  exact .refl _
theorem afw {s w:Nat} (h:s+2≤w) (hw:w<2^40):∀K args pre r,Nn s w K args pre=some r→aA P nM K args pre r:=cz fun⟨⟨n,k⟩,_⟩ K hn=>aka h hw hn K
theorem Xd {w:Nat}:∀K args pre r,LH w K args pre=some r→aA P BW K args pre r:=cz fun⟨⟨n,k⟩,i,⟨m,g⟩,_⟩ K hn=>by
 obtain⟨h1,h2,h3,h4⟩:=hn
 simp only at h1 h2 h3 h4
 subst h3
 have:=fN (Yl (k:=k) (t:=g 0) (s:=w) (i:=i.toNat) (n:=n) (by omega) h4 K) (args:=[.bD n (aV k n w),.int .i64 i,aV g 1 w]) rfl ⟨.refl _,bt (by omega),jh fun j hj=>cT (by rw[Nat.lt_one_iff.1 hj]),trivial⟩ []
 exact this
theorem aee {s w:Nat} (h:s+2≤w) (hw:w<2^40):aX P (B9 s w):=FK (aJ (afw h hw) (aJ Xd fC))
theorem Yr {n s r w:Nat} {k:Nat→Rat} {t:Rat} (h:s+2≤w) (h2:r+2≤w) (hw:w<2^40) (hn:n<2^40) (K:Nat):aA P zF K [aV k n s,.rat t r] [] (aI (aV (jd k t (gD k t n)) (n+1) w) []):=by
 refine fK (r:=aI (aV (jd k t (gD k t n)) (n+1) w) []) hT (aee h hw) hm aeG rfl (of_decide_eq_true (by kernel_rfl)) rfl [1,1,0] (i:=0) (y:=part zc [1,1,0,0,0]) (z:=part zc [1,1,1]) (by kernel_rfl) (by kernel_rfl) (by kernel_rfl) (f1:=[]) (f2:=[10,18]) (f3:=[]) 60 uN 1
  (fun i:Nat=>F4 n k s i) (fun _=>[(0,tP t r)]) (fun i=>i≤n∧gD k t i=i) (fun i=>i≤n∧i=gD k t n) (fun i=>n-i) (fun _=>⟨⟨_,Rb,?_⟩,fun i hi=>⟨_,ahf,?_⟩,fun i hi=>⟨_,SH,?_⟩⟩) K []
 ·simp only[aa.all,ax]
  exact⟨0,⟨Nat.zero_le _,rfl⟩,[(0,0)],rfl,rfl,rfl,aF rfl rfl (aD rfl rfl) trivial⟩
 ·simp only[aa.all,ax,decide_eq_true_eq,decide_eq_false_iff_not,Int.toNat_natCast]
  simp only[cond_true,decide_eq_true_eq,decide_eq_false_iff_not,X6]
  exact⟨fun h1=>⟨⟨h1,by omega,by omega,by omega,by omega⟩,fun h2=>⟨by omega,i+1,⟨by omega,QM hi.2 h2⟩,by dsimp only;omega,[(0,0)],rfl,rfl,rfl,aF rfl rfl (aD rfl rfl) trivial⟩,
    fun h2=>⟨rfl,i,⟨by omega,(Lv hi.2 (Rat.not_le.1 h2) (by omega)).symm⟩,[(0,0)],rfl,rfl,rfl,aF rfl rfl (aD rfl rfl) trivial⟩⟩,
   fun h1=>⟨h1,fun h=>absurd h (by decide),fun _=>⟨rfl,i,⟨hi.1,by rw[show n=i by omega];exact hi.2.symm⟩,[(0,0)],rfl,rfl,rfl,aF rfl rfl (aD rfl rfl) trivial⟩⟩⟩
 ·obtain⟨hi,rfl⟩:=hi
  simp only[aa.all,ax]
  refine⟨⟨cU (Nat.le_refl _),by omega,by omega,by omega,by omega,by omega,trivial,cU (Nat.le_refl _),fun j hj=>?_,by omega,by omega,trivial,by omega⟩,jh fun j hj=>cT ?_⟩
  ·rw[Nat.lt_one_iff.1 hj];exact eW (by omega)
  ·show AV.rat (jd k (t+0) ((gD k t n:Nat):Int).toNat j) w=_
   rw[Rat.add_zero,Int.toNat_natCast]
def It (s w:Nat):Spec:=cJ (kC (kL s) (kC (iG s) kN)) (fun a=>aV (jd a.1.2 a.2.1 (gD a.1.2 a.2.1 a.1.1)) (a.1.1+1) w) fun a=>[a.1.1<2^40]
theorem Vh {s w:Nat} (h:s+2≤w) (hw:w<2^40):∀K args pre r,It s w K args pre=some r→aA P zF K args pre r:=cz fun⟨⟨n,k⟩,t,_⟩ K hn=>Yr h h hw hn K
end Go.Am.B

/- Mirrored and affinely changed fJ, insertions: plain laws; contracts for numbers of any sizes; parts of spans. -/
namespace Go.Am.B
open Go Go.Am.N AV aa ak IntKind
theorem Kn.ends {n p:Nat} {k:Nat→Rat} (h:Kn n p k):k 0<k (n-1):=by
 have h1:=h.p1
 have hl:=h.len
 have:=h.mult 1 (by omega) (by omega)
 have e1:=h.mono (show 0≤1 by omega) (show 1<n by omega)
 have e2:=h.mono (show 1+p≤n-1 by omega) (show n-1<n by omega)
 grind
theorem A5 {n:Nat} {k:Nat→Rat} {a b:Rat} {i:Nat}:fL n k a b i=a+(k i-k 0)*((k (n-1)-k 0)⁻¹*(b-a)):=by
 unfold fL;rw[Rat.div_def];grind
theorem Kn.V7 {n p:Nat} {k:Nat→Rat} {a b:Rat} (h:Kn n p k) (hab:a<b):Kn n p (fL n k a b):=by
 have he:=h.ends
 have hp:0<(k (n-1)-k 0)⁻¹*(b-a):=Rat.mul_pos (Rat.inv_pos.2 (by grind)) (by grind)
 have key:∀i j,k i≤k j→fL n k a b i≤fL n k a b j:=fun i j hij=>by
  rw[A5,A5]
  have:=Rat.mul_le_mul_of_nonneg_right (show k i-k 0≤k j-k 0 by grind) (Rat.le_of_lt hp)
  grind
 have keyL:∀i j,k i<k j→fL n k a b i<fL n k a b j:=fun i j hij=>by
  rw[A5,A5]
  have:=Rat.mul_lt_mul_of_pos_right (show k i-k 0<k j-k 0 by grind) hp
  grind
 have keyE:∀i j,k i=k j→fL n k a b i=fL n k a b j:=fun i j hij=>by unfold fL;rw[hij]
 exact⟨h.p1,h.len,fun i hi=>key _ _ (h.sorted i hi),fun i hi=>keyE _ _ (h.first i hi),fun i h2 h3=>keyE _ _ (h.last i h2 h3),fun i h2 h3=>keyL _ _ (h.mult i h2 h3)⟩
end Go.Am.B

/- g8.Affine, ref10.Affine. -/
namespace Go.Am.B
open Go Go.Am.N AV aa ak IntKind
theorem adO:aO P xL uK (au uK):=aP S9 (by kernel_rfl) (by kernel_rfl) (by kernel_rfl)
theorem U8:aO P yV zh (au zh):=aP ajd (by kernel_rfl) (by kernel_rfl) (by kernel_rfl)
noncomputable def G4:aR:=[(N4,fW T (sG::vj) [] 100 ND)]
def Gp (x r s y w:Nat):Spec:=cJ (kC (gx x r) (kC (s8 s) kN)) (fun a=>bE (rE a.2.1 a.1) y w) fun a=>[a.1.n<2^30,a.1.m<2^30]
def mw (c:Cu) (a b:Rat):Cu:=⟨if b≤a then 0 else c.p,jf c.n a b,fL c.n c.k a b,jf c.m a b,c.f⟩
noncomputable def K9:aR:=nG::(vm,B7 64 64 1000)::(mM,Gp 64 64 64 100 1000)::G4
noncomputable def PR:aR:=nG::(zl,B7 64 64 1000)::[]
theorem adU {c:Cu} {a b:Rat}:bC T K9 [19] 60 uK (au uK) ⟨aN 0 [bE c 64 64,.rat a 64,.rat b 64],[],0⟩=
  let c6 : Rat := (↑(1 : Int) : Rat); let c4 : Prop := bP (fun i ↦ rat (c.k i) 64) c.n 64; let c3 : Prop := 1 ≤ 1; let c2 : Prop := 0 < 1; let c1 : Nat := Max.max 1 (br (Int.natAbs (1 : Int))); let c5 : Prop := 1 ≤ c1; some (ag [c2, c2, c2, c4, (64 : Nat) ≤ 64, (64 : Nat) ≤ 64, (1 : Nat) ≤ c.n, c.n < 2 ^ 40] (fork (gV a b != (0 : Int)) (ag [c2] (ag [c2] (leaf ret [agg [int i64 (0 : Int), nil, nil], int i64 (gV a b)]))) (ag [c2, c2, c2, c4, eM (fun i ↦ bw (c.f i) 64) c.m 64, Max.max c1 1 ≤ 64, c5, c5, c5, c5, c1 ≤ 1, c3, c3, c1 ≤ 1, c3, c3, c.n < 2 ^ 30, c.m < 2 ^ 30, c2] (ag [c2] (leaf ret [agg [int i64 c.p, aj 3 (jf c.n a b) fun i ↦ rat (fL c.n (fun i ↦ aT (rat (c.k i) 64)) a b i) 1000, aj 12 c.m fun i ↦ agg [agg [rat (eu (V3.mk c6 0 0) (V3.mk (aT (rat (c.f i).n.x 64)) (aT (rat (c.f i).n.y 64)) (aT (rat (c.f i).n.z 64))) 0) 1000, rat (eu (V3.mk 0 c6 0) (V3.mk (aT (rat (c.f i).n.x 64)) (aT (rat (c.f i).n.y 64)) (aT (rat (c.f i).n.z 64))) 0) 1000, rat (eu (V3.mk 0 0 c6) (V3.mk (aT (rat (c.f i).n.x 64)) (aT (rat (c.f i).n.y 64)) (aT (rat (c.f i).n.z 64))) 0) 1000], rat (aT (rat (c.f i).d 64)) 1000]], int i64 (0 : Int)]))))) := by kernel_rfl
theorem UO {c:Cu} {a b:Rat}:bC T PR [19] 60 zh (au zh) ⟨aN 0 [bE c 64 64,.rat a 64,.rat b 64],[],0⟩=
  let c1 : Prop := 0 < 1; some (ag [c1, c1, c1, bP (fun i ↦ rat (c.k i) 64) c.n 64, (64 : Nat) ≤ 64, (64 : Nat) ≤ 64, (1 : Nat) ≤ c.n, c.n < 2 ^ 40] (fork (gV a b != (0 : Int)) (ag [c1] (ag [c1] (leaf ret [agg [int i64 (0 : Int), nil, nil], int i64 (gV a b)]))) (ag [c1, (0 : Nat) * 12 ≤ 2 ^ 24, c1, ((0 : Nat) + c.m) * ((224 : Nat) + 1) * 2 ≤ 2 ^ 47, c1] (ag [c1] (leaf ret [agg [int i64 c.p, aj 3 (jf c.n a b) fun i ↦ rat (fL c.n (fun i ↦ aT (rat (c.k i) 64)) a b i) 1000, aj 12 ((0 : Nat) + c.m) fun i ↦ agg [agg [rat (c.f (i + 0 - 0)).n.x 64, rat (c.f (i + 0 - 0)).n.y 64, rat (c.f (i + 0 - 0)).n.z 64], rat (c.f (i + 0 - 0)).d 64]], int i64 (0 : Int)]))))) := by kernel_rfl
theorem MY:aX P G4:=aJ (gj hT (iz A3) hm (aP Xp (by kernel_rfl) (by kernel_rfl) (by kernel_rfl)) _ _) bn
theorem LU {x r s y w:Nat} (hx:x+10≤y) (hy:y<2^40) (hw:4*s+3*r+10≤w) (hw2:w<2^40):∀K args pre q,Gp x r s y w K args pre=some q→aA P mM K args pre q:=cz fun⟨c,m,_⟩ K hn=>YZ hx hy hw hw2 hn.1 hn.2 K
theorem abU:aX P K9:=cC (aJ (TZ (by decide) (by decide)) (aJ (LU (by decide) (by decide) (by decide) (by decide)) MY))
theorem Wh:aX P PR:=cC (aJ (aez (by decide) (by decide)) bn)
theorem Fk:((1:Int):Rat)=1:=rfl
theorem Iz {v:V3}:eu ⟨((1:Int):Rat),0,0⟩ v 0=v.x:=by unfold eu;rw[Fk];dsimp only;grind
theorem Lu {v:V3}:eu ⟨0,((1:Int):Rat),0⟩ v 0=v.y:=by unfold eu;rw[Fk];dsimp only;grind
theorem OJ {v:V3}:eu ⟨0,0,((1:Int):Rat)⟩ v 0=v.z:=by unfold eu;rw[Fk];dsimp only;grind
theorem sY {c:Cu} {a b:Rat} (h:gV a b≠0):mw c a b=⟨0,0,fL c.n c.k a b,0,c.f⟩:=by
 have hab:b≤a:=by
  by_cases h2:b≤a
  ·exact h2
  ·exact absurd (if_neg h2) h
 unfold mw jf;simp only[if_pos hab]
theorem Kw {c:Cu} {a b:Rat} (h:gV a b=0):mw c a b=⟨c.p,c.n,fL c.n c.k a b,c.m,c.f⟩∧jf c.n a b=c.n:=by
 have hab:¬b≤a:=by
  intro h2
  unfold gV at h;rw[if_pos h2]at h;exact absurd h (by decide)
 unfold mw jf;simp only[if_neg hab];exact⟨trivial,trivial⟩
theorem BS {c:Cu} {s r:Nat} (hp:c.p=0) (hn:c.n=0) (hm2:c.m=0):bA (.agg [.int .i64 0,.nil,.nil]) (bE c s r):=by
 obtain⟨p,n,k,m,f⟩:=c
 dsimp only at hp hn hm2
 subst hp hn hm2
 exact bQ ⟨.refl _,iJ (by decide),iJ (by decide),trivial⟩
theorem aic {c:Cu} {a b:Rat} (hn1:1≤c.n) (hn:c.n<2^30) (hm2:c.m<2^30) (K:Nat):aA P xL K [bE c 64 64,.rat a 64,.rat b 64] [] (aI (.tuple [bE (mw c a b) 1000 1000,.int .i64 (gV a b)]) []):=by
 refine bF (r:=aI (.tuple [bE (mw c a b) 1000 1000,.int .i64 (gV a b)]) []) hT abU hm adO rfl (of_decide_eq_true (by kernel_rfl)) rfl 60 adU (fun _=>?_) K []
 simp only[aa.all,ax,bne_iff_ne,ne_eq,bne_eq_false_iff_eq]
 refine⟨⟨by omega,by omega,by omega,cU (Nat.le_refl _),by omega,by omega,hn1,by omega⟩,fun hE=>⟨by omega,by omega,?_⟩,fun hE=>⟨?_,by omega,?_⟩⟩
 ·exact⟨BS (by rw[sY hE]) (by rw[sY hE]) (by rw[sY hE]),.refl _,trivial⟩
 ·(repeat' with_reducible refine And.intro ?_ ?_)
  all_goals first|omega|decide|exact cU (Nat.le_refl _)|exact iB (Nat.le_refl _)
 ·obtain⟨e1,e2⟩:=Kw (c:=c) hE
  rw[e1,e2,hE]
  exact⟨bQ ⟨.refl _,.refl _,jh fun i _=>bQ ⟨bQ ⟨bp Iz (Nat.le_refl _),bp Lu (Nat.le_refl _),bp OJ (Nat.le_refl _),trivial⟩,.refl _,trivial⟩,trivial⟩,.refl _,trivial⟩
theorem aao {c:Cu} {a b:Rat} (hn1:1≤c.n) (hn:c.n<2^30) (hm2:c.m<2^30) (K:Nat):aA P yV K [bE c 64 64,.rat a 64,.rat b 64] [] (aI (.tuple [bE (mw c a b) 1000 1000,.int .i64 (gV a b)]) []):=by
 refine bF (r:=aI (.tuple [bE (mw c a b) 1000 1000,.int .i64 (gV a b)]) []) hT Wh hm U8 rfl (of_decide_eq_true (by kernel_rfl)) rfl 60 UO (fun _=>?_) K []
 simp only[aa.all,ax,bne_iff_ne,ne_eq,bne_eq_false_iff_eq]
 refine⟨⟨by omega,by omega,by omega,cU (Nat.le_refl _),by omega,by omega,hn1,by omega⟩,fun hE=>⟨by omega,by omega,?_⟩,fun hE=>⟨?_,by omega,?_⟩⟩
 ·exact⟨BS (by rw[sY hE]) (by rw[sY hE]) (by rw[sY hE]),.refl _,trivial⟩
 ·(repeat' with_reducible refine And.intro ?_ ?_)
  all_goals omega
 ·obtain⟨e1,e2⟩:=Kw (c:=c) hE
  rw[e1,e2,hE,Nat.zero_add]
  exact⟨bQ ⟨.refl _,.refl _,jh fun i _=>bQ ⟨bQ ⟨bp rfl (by decide),bp rfl (by decide),bp rfl (by decide),trivial⟩,bp rfl (by decide),trivial⟩,trivial⟩,.refl _,trivial⟩
def CT:Spec:=cJ (kC (gx 64 64) (kC (iG 64) (kC (iG 64) kN))) (fun a=>.tuple [bE (mw a.1 a.2.1 a.2.2.1) 1000 1000,.int .i64 (gV a.2.1 a.2.2.1)]) fun a=>[1≤a.1.n,a.1.n<2^30,a.1.m<2^30]
theorem afq:∀K args pre q,CT K args pre=some q→aA P xL K args pre q:=cz fun⟨c,a,b,_⟩ K hn=>aic hn.1 hn.2.1 hn.2.2 K
theorem Y0:∀K args pre q,CT K args pre=some q→aA P yV K args pre q:=cz fun⟨c,a,b,_⟩ K hn=>aao hn.1 hn.2.1 hn.2.2 K
end Go.Am.B

/- spline.Copied and g8.Move, whose lists may be written to. -/
namespace Go.Am.B
open Go Go.Am.N AV aa ak IntKind
def O7 (x y:Nat):Spec:=oM fun K l=>match l with
 |[v]=>match(kL x).read v with
  |some ((n,k),q)=>some ⟨.own K 3 0 n,[(K,jJ y n k)],q++[n<2^40]⟩
  |none=>none
 |_=>none
noncomputable def A2 (x y:Nat):aR:=nG::(mO,O7 x y)::(Hs++eU)
abbrev lC (m:Nat) (f:Nat→Pl) (w:Nat):ah:=⟨true,true,12,m,fun j=>bw (f j) w⟩
abbrev EF (c:Cu) (a b:Nat):AV:=.agg [.int .i64 c.p,.own a 3 0 c.n,.own b 12 0 c.m]
def KR (x r s y w:Nat):Spec:=oM fun K l=>match l with
 |[u,v]=>match(gx x r).read u,(s8 s).read v with
  |some (c,q1),some (m,q2)=>some ⟨fy [EF c K (K+1)],[(K,jJ y c.n c.k),(K+1,lC c.m (fun j=>gT m (c.f j)) w)],q1++(q2++[c.n<2^30,c.m<2^30])⟩
  |_,_=>none
 |_=>none
abbrev G5 (c:Cu) (m:Mp) (y w s i:Nat):aC:=[(4,lC i (fun j=>gT m (c.f j)) w),(5,jJ y c.n c.k),(3,⟨false,true,3,1,fun _=>.agg [.int .i64 c.p,.own 5 3 0 c.n,.own 4 12 0 i]⟩),(2,⟨false,true,3,1,fun _=>.agg [.int .i64 0,.nil,.nil]⟩),(1,⟨false,true,36,1,fun _=>fh m s⟩)]
theorem U4 {x y n i:Nat} {k:Nat→Rat}:aK T uV [] 60 [2] [part nO [1,1,1]] ⟨aB ql (xw x n k i),[(0,jJ y i k)],1⟩=
  some (leaf ret ([own 0 3 0 i],[((0:Nat),ah.mk true true 3 i fun i↦rat (k i) y)])):=by kernel_rfl
theorem UL {x y r s:Nat} {c:Cu} {m:Mp}:aK T (A2 x y) [] 60 lp (before lS [1,1,0,1]) ⟨aN 0 [bE c x r,fh m s],[],0⟩=
  let c2:Prop:=0<1;let c1:AV:=agg [int i64 (0:Int),nil,nil];some (ag [c2,c2,bP (fun i↦rat (c.k i) x) c.n x,c.n<2^40,c2] (ag [c2] (leaf normal ([ptr 4096 0 (aU (fh m s)).size 0 [],ptr 8192 0 3 0 [],ptr 36864 0 3 0 [],aj 12 c.m fun i↦agg [agg [rat (c.f i).n.x r,rat (c.f i).n.y r,rat (c.f i).n.z r],rat (c.f i).d r],int i64 (↑c.m:Int),int i64 (0:Int)],[((28672:Nat),ah.mk true true 3 c.n fun i↦rat (aT (rat (c.k i) x)) y),((36864:Nat),ah.mk false true 3 1 fun j↦if(j==0)=true then aU (agg ((c1.kids.set 0 (aU (int i64 c.p))).set 1 (aU (own (nat_lit 28671+1) 3 0 c.n))))else c1),((8192:Nat),ah.mk false true 3 1 fun x↦c1),((4096:Nat),ah.mk false true (aU (fh m s)).size 1 fun x↦agg [agg [agg [rat m.m.a.x s,rat m.m.a.y s,rat m.m.a.z s],agg [rat m.m.b.x s,rat m.m.b.y s,rat m.m.b.z s],agg [rat m.m.c.x s,rat m.m.c.y s,rat m.m.c.z s]],agg [rat m.t.x s,rat m.t.y s,rat m.t.z s]])])))):=by kernel_rfl
theorem acA {x y r s w i:Nat} {c:Cu} {m:Mp}:aK T (A2 x y) [18] 60 lp [part lS [1,1,0,1,0,0]] ⟨aB lp (th c r i),G5 c m y w s i,6⟩=
  let c25:Int:=(↑c.m:Int);let c24:Int:=(↑(3:Nat):Int);let c20:AV:=ptr 2 0 3 0 [];let c19:AV:=ptr 3 0 3 0 [];let c18:AV:=ptr 1 0 36 0 [];let c16:Nat×ah:=((5:Nat),ah.mk true true 3 c.n fun i↦rat (c.k i) y);let c15:AV:=rat 0 1;let c14:Int:=(↑i:Int);let c13:Nat:=1+(s+r)+1;let c12:Int:=i64.wrap ((0:Int)+(1:Int));let c10:AV:=aj 12 c.m fun i↦agg [agg [rat (c.f i).n.x r,rat (c.f i).n.y r,rat (c.f i).n.z r],rat (c.f i).d r];let c8:AV:=agg [int i64 c.p,own 5 3 0 c.n,own 4 12 0 i];let c6:List (Nat×ah):=[((2:Nat),ah.mk false true 3 1 fun x↦agg [int i64 (0:Int),nil,nil]),((1:Nat),ah.mk false true 36 1 fun x↦agg [agg [agg [rat m.m.a.x s,rat m.m.a.y s,rat m.m.a.z s],agg [rat m.m.b.x s,rat m.m.b.y s,rat m.m.b.z s],agg [rat m.m.c.x s,rat m.m.c.y s,rat m.m.c.z s]],agg [rat m.t.x s,rat m.t.y s,rat m.t.z s]])];let c4:Nat:=2^42;let c1:Prop:=0<1;let c28:Int:=i64.wrap (c12+(1:Int));let c27:Int:=c14+(1:Int);let c26:Prop:=r<c4;let c23:Prop:=1<c4;let c21:Prop:=s<c4;let c17:Prop:=s+r<c4;let c9:V3:=(c.f c14.toNat).n;let c7:Nat:=c13+(s+r)+1;let c5:Prop:=(0:Int)≤(0:Int)∧(0:Int)<c24;let c3:Prop:=(0:Int)≤c12∧c12<c24;let c11:Nat:=c7+(s+r)+1;let c2:Prop:=(0:Int)≤c28∧c28<c24;let c22:Nat:=c11+s+1;some (fork (decide (c14<c25)) (ag [(0:Int)≤c14∧c14.toNat<c.m,c1] (ag [c1,c1,c1,c1,c1,c1,c5,c1,c1,c1,c1,c5,c1,c5,c1,c21,c26,c23,c17,c1,c1,c3,c1,c3,c1,c21,c26,c13<c4,c17,c1,c1,c2,c1,c2,c1,c21,c26,c7<c4,c17,c1,c1,c1,c1,c5,c1,c3,c1,c1,c1,c1,c5,c1,c5,c1,c21,c26,c23,c17,c1,c1,c3,c1,c3,c1,c21,c26,c13<c4,c17,c1,c1,c2,c1,c2,c1,c21,c26,c7<c4,c17,c1,c1,c1,c1,c3,c1,c2,c1,c1,c1,c1,c5,c1,c5,c1,c21,c26,c23,c17,c1,c1,c3,c1,c3,c1,c21,c26,c13<c4,c17,c1,c1,c2,c1,c2,c1,c21,c26,c7<c4,c17,c1,c1,c1,c1,c2,c1,c1,c1,c1,c1,c1,c1,c5,c1,c5,c1,c11<c4,c21,c5,c1,c3,c1,c3,c1,c11<c4,c21,c3,c1,c2,c1,c2,c1,c11<c4,c21,c2,c1,c1,c1,c1,c1,c1,c1,c1,c1,c26,c23,(1:Nat)*12≤2^24,(i+1)*((224:Nat)+1)*2≤2^47,c1] (ag [-(2:Int)^63≤c27∧c27<(2:Int)^63] (leaf normal ([c18,c20,c19,c10,int i64 c25,int i64 c27],((69638:Nat),ah.mk true true 12 (i+1) fun i_1↦if i_1<i then bw (gT m (c.f i_1)) w else nth [agg [agg [rat ((0:Rat)+m.m.a.x*c9.x+m.m.a.y*c9.y+m.m.a.z*c9.z+m.t.x) c22,rat ((0:Rat)+m.m.b.x*c9.x+m.m.b.y*c9.y+m.m.b.z*c9.z+m.t.y) c22,rat ((0:Rat)+m.m.c.x*c9.x+m.m.c.y*c9.y+m.m.c.z*c9.z+m.t.z) c22],rat ((c.f c14.toNat).d+0) (r+1+1)]] (agg [agg [c15,c15,c15],c15]) (i_1-i+0))::c16::((3:Nat),ah.mk false true 3 1 fun j↦if(j==0)=true then agg (c8.kids.set 2 (aU (own (nat_lit 69637+1) 12 0 (i+1))))else c8)::c6))))) (leaf (exit 0) ([c18,c20,c19,c10,int i64 c25,int i64 c14],((4:Nat),ah.mk true true 12 i fun j↦agg [agg [rat (eu m.m.a (c.f j).n m.t.x) w,rat (eu m.m.b (c.f j).n m.t.y) w,rat (eu m.m.c (c.f j).n m.t.z) w],rat (c.f j).d w])::c16::((3:Nat),ah.mk false true 3 1 fun x↦c8)::c6))):=by kernel_rfl
theorem aaq {x y r s w i:Nat} {c:Cu} {m:Mp}:aK T (A2 x y) [] 60 [4] [part lS [1,1,1]] ⟨aB lp (th c r i),G5 c m y w s i,6⟩=
  some (ag [(0:Nat)<1,(0:Nat)<1] (leaf ret ([ptr 2 0 3 0 []],[((4:Nat),ah.mk true true 12 i fun j↦agg [agg [rat (eu m.m.a (c.f j).n m.t.x) w,rat (eu m.m.b (c.f j).n m.t.y) w,rat (eu m.m.c (c.f j).n m.t.z) w],rat (c.f j).d w]),((5:Nat),ah.mk true true 3 c.n fun i↦rat (c.k i) y),((2:Nat),ah.mk false true 3 1 fun j↦if(j==0)=true then aU (agg [int i64 c.p,own 5 3 0 c.n,own 4 12 0 i])else agg [int i64 (0:Int),nil,nil])]))):=by kernel_rfl
theorem aaZ {args:List AV} {x y n:Nat} {k:Nat→Rat} {l:List Prop} (hxy:x+10≤y) (hy:y<2^40) (ha:ax l→dI (aS []) args [aV k n x]) (hn:ax l→n<2^40) (K:Nat):aA P mO K args [] ⟨fy [.own K 3 0 n],[(K,jJ y n k)],l⟩:=by
 refine F5 hT GH ha (of_decide_eq_true (by kernel_rfl)) fun need c hk=>?_
 have hn:=hn need
 refine aq.iM hT Gw hm [1,1,0,1] (i:=0) (y:=part nO [1,1,0,1,0,0]) (z:=part nO [1,1,1]) (by kernel_rfl) (by kernel_rfl) (by kernel_rfl) GH.dst hk (f1:=[]) (f2:=[12]) 60 ql 1 (fun i:Nat=>xw x n k i) (fun i=>[(0,jJ y i k)])
  (fun i=>i≤n) (fun i=>i=n) (fun i=>n-i) (fun _=>False) ⟨_,PY,?_⟩ (fun i hi=>⟨_,Ji,?_⟩) (fun i hi=>?_) (fun _ _ h=>h.elim)
 ·simp only[aa.all,ax]
  exact⟨by omega,0,Nat.zero_le _,[(0,12288)],rfl,rfl,rfl,aW rfl rfl rfl (fun i hi=>absurd hi (Nat.not_lt_zero i)) trivial⟩
 ·simp only[aa.all,ax,decide_eq_true_eq,decide_eq_false_iff_not,Int.toNat_natCast,Nat.add_zero]
  exact⟨fun h2=>⟨by omega,by omega,by omega,i+1,by omega,by dsimp only;omega,[(0,40961)],rfl,rfl,rfl,aW rfl rfl rfl (fun j hj=>lZ (fun _ _=>rfl) (Rat.add_zero _) (Nat.le_refl _) (by omega) hj) trivial⟩,fun h2=>⟨rfl,i,by omega,[(0,0)],rfl,rfl,rfl,aW rfl rfl rfl (fun j hj=>aD rfl rfl) trivial⟩⟩
 ·subst hi
  refine aq.bk hT Gw hm 60 [2] U4 (by kernel_rfl) fun s' hs'=>⟨.inr rfl,[2],_,[.own 0 3 0 i],_,0,_,hs',by kernel_rfl,⟨⟨rfl,bY (by simp[aS,look]) rfl rfl⟩,trivial⟩,rfl,gy rfl fun i hi=>aG rfl⟩
theorem adV {x y:Nat} (hxy:x+10≤y) (hy:y<2^40):∀K args pre r,O7 x y K args pre=some r→aA P mO K args pre r:=by
 refine ry fun K args r hk hs=>?_
 split at hs
 ·rename_i v
  split at hs
  ·rename_i n k q hv
   simp only[Option.some.injEq]at hs
   subst hs
   exact aaZ hxy hy (fun hn=>AG hk (by cases v<;>first|rfl|simp[kL,uF]at hv) ⟨(kL x).ok hv (cE.1 hn).1,trivial⟩) (fun hn=>(cE (a:=q) (b:=[n<2^40]).1 hn).2) K
  ·simp at hs
 ·simp at hs
theorem Mx {x y:Nat} (hxy:x+10≤y) (hy:y<2^40):aX P (A2 x y):=cC (aJ (adV hxy hy) (mq Np fC))
theorem Oa {rl:List (Nat×Nat)} {c:Cu} {a b i n:Nat} (h:aS rl 4=some a) (h5:aS rl 5=some b) (hn:n=c.n):fc rl (.agg [.int .i64 c.p,.own b 3 0 n,.own a 12 0 i]) (.agg [.int .i64 c.p,.own 5 3 0 c.n,.own 4 12 0 i]):=
 gv ⟨⟨rfl,aG rfl⟩,⟨rfl,bY h5 rfl hn⟩,⟨rfl,bY h rfl rfl⟩,trivial⟩
theorem Sy {args:List AV} {x y r s w:Nat} {c:Cu} {m:Mp} {l:List Prop} (hx:x+10≤y) (hy:y<2^40) (hw:4*s+3*r+10≤w) (hw2:w<2^40) (ha:ax l→dI (aS []) args [bE c x r,fh m s]) (hl:ax l→c.n<2^30∧c.m<2^30) (K:Nat):
  aA P mM K args [] ⟨fy [EF c K (K+1)],[(K,jJ y c.n c.k),(K+1,lC c.m (fun j=>gT m (c.f j)) w)],l⟩:=by
 refine Wm hT FX ha (of_decide_eq_true (by kernel_rfl)) fun need cx hk=>?_
 obtain⟨hn,hm2⟩:=hl need
 refine aq.iM hT (Mx hx hy) hm [1,1,0,1] (i:=0) (y:=part lS [1,1,0,1,0,0]) (z:=part lS [1,1,1]) (by kernel_rfl) (by kernel_rfl) (by kernel_rfl) FX.dst hk (f1:=[]) (f2:=[18]) 60 lp 6
  (fun i:Nat=>th c r i) (fun i=>G5 c m y w s i) (fun i=>i≤c.m) (fun i=>i=c.m) (fun i=>c.m-i) (fun _=>False) ⟨_,UL,?_⟩ (fun i hi=>⟨_,acA,?_⟩) (fun i hi=>?_) (fun _ _ h=>h.elim)
 ·simp only[aa.all,ax]
  rw[H7 m s]
  exact⟨⟨by omega,by omega,cU (Nat.le_refl _),by omega,by omega⟩,by omega,0,Nat.zero_le _,[(1,4096),(2,8192),(3,36864),(5,28672)],rfl,rfl,rfl,jy rfl (by omega) (by omega) (aW rfl rfl rfl (fun _ _=>aD rfl rfl) (aF rfl rfl (gv ⟨⟨rfl,aG rfl⟩,⟨rfl,bY rfl rfl rfl⟩,⟨rfl,me (by omega)⟩,trivial⟩) (aF rfl rfl (aD rfl rfl) (aF rfl rfl (aD rfl rfl) trivial))))⟩
 ·set_option maxRecDepth 10000 in simp only[aa.all,ax,decide_eq_true_eq,decide_eq_false_iff_not,Int.toNat_natCast,Nat.add_zero]
  refine⟨fun h=>?_,fun h=>⟨rfl,i,by omega,[(1,1),(2,2),(3,3),(4,4),(5,5)],rfl,rfl,rfl,aW rfl rfl rfl (fun _ _=>aD rfl rfl) (aW rfl rfl rfl (fun _ _=>aD rfl rfl) (aF rfl rfl (Oa rfl rfl rfl) (aF rfl rfl (aD rfl rfl) (aF rfl rfl (aD rfl rfl) trivial))))⟩⟩
  have w1:i64.wrap (0+1)=1:=by decide
  have w2:i64.wrap (i64.wrap (0+1)+1)=2:=by decide
  rw[w2,w1]
  refine⟨by omega,?_,by omega,i+1,by omega,by dsimp only;omega,[(1,1),(2,2),(3,3),(4,69638),(5,5)],rfl,rfl,rfl,aW rfl rfl rfl (fun k hk=>oB (y:=fun j=>gT m (c.f j)) (fun _ _=>rfl) (s':=w) ?_ rfl (Nat.le_refl _) (Nat.le_refl _) hk) (aW rfl rfl rfl (fun _ _=>aD rfl rfl) (aF rfl rfl (Oa rfl rfl rfl) (aF rfl rfl (aD rfl rfl) (aF rfl rfl (aD rfl rfl) trivial))))⟩
  ·(repeat' with_reducible refine And.intro ?_ ?_)<;>omega
  ·exact bQ ⟨bQ ⟨bp rfl (by omega),bp rfl (by omega),bp rfl (by omega),trivial⟩,bp (Rat.add_zero _) (by omega),trivial⟩
 ·subst hi
  refine aq.bk hT (Mx hx hy) hm 60 [4] aaq (by kernel_rfl) ?_
  simp only[aa.all,ax]
  have r1:aS [(K,5),(K+1,4)] K=some 5:=CS
  have r2:aS [(K,5),(K+1,4)] (K+1)=some 4:=Cg (by omega)
  exact⟨by omega,fun s' hs'=>⟨.inr trivial,[4],_,[.agg [.int .i64 c.p,.own 5 3 0 c.n,.own 4 12 0 c.m]],[0<1],_,5,4,_,_,hs',by kernel_rfl,Nat.zero_lt_one,by decide,⟨⟨rfl,GV ⟨⟨rfl,aG rfl⟩,⟨rfl,bY r1 rfl rfl⟩,⟨rfl,bY r2 rfl rfl⟩,trivial⟩⟩,trivial⟩,rfl,gy rfl fun i hi=>aG rfl,rfl,gy rfl fun i hi=>aG rfl⟩⟩
theorem aeS {x y r s w:Nat} (hx:x+10≤y) (hy:y<2^40) (hw:4*s+3*r+10≤w) (hw2:w<2^40):∀K args pre q,KR x r s y w K args pre=some q→aA P mM K args pre q:=by
 refine ry fun K args q hk hs=>?_
 split at hs
 ·rename_i u v
  split at hs
  ·rename_i c q1 m q2 hu hv
   simp only[Option.some.injEq]at hs
   subst hs
   exact Sy hx hy hw hw2 (fun hn=>AG hk (by cases u<;>cases v<;>first|rfl|simp[gx,s8,Dm]at hu hv) ⟨(gx x r).ok hu (cE.1 hn).1,(s8 s).ok hv (cE.1 (cE.1 hn).2).1,trivial⟩) (fun hn=>(cE (a:=q2) (b:=[c.n<2^30,c.m<2^30]).1 (cE.1 hn).2).2) K
  ·simp at hs
 ·simp at hs
end Go.Am.B

/- spline.Of, Four.Pole, g8.of, Spline.Eval, g8.sound, g8.Eval. -/
namespace Go.Am.B
open Go Go.Am.N AV aa ak IntKind
theorem Sd:aO P GI Cs (au Cs):=aP agv (by kernel_rfl) (by kernel_rfl) (by kernel_rfl)
theorem aeR:aO P pe wQ (au wQ):=aP ajO (by kernel_rfl) (by kernel_rfl) (by kernel_rfl)
theorem agM:aO P qL wS (au wS):=aP ag2 (by kernel_rfl) (by kernel_rfl) (by kernel_rfl)
theorem KI:aO P zN qz (au qz):=aP ah2 (by kernel_rfl) (by kernel_rfl) (by kernel_rfl)
theorem Za:aO P qW yc (au yc):=aP XF (by kernel_rfl) (by kernel_rfl) (by kernel_rfl)
theorem XG:aO P BM wV (au wV):=aP afK (by kernel_rfl) (by kernel_rfl) (by kernel_rfl)
def jw (p:Pl):Pl:=⟨⟨p.d*p.n.x,p.d*p.n.y,p.d*p.n.z⟩,p.d⟩
def jz (h:Pl):Pl:=⟨⟨h.n.x/h.d,h.n.y/h.d,h.n.z/h.d⟩,h.d⟩
abbrev pJ (f:Nat→Pl) (n s:Nat):AV:=.aj 12 n (fun i=>dw (f i) s)
abbrev fE (c:Cu) (s r:Nat):AV:=.agg [.int .i64 c.p,aV c.k c.n s,pJ c.f c.m r]
def KS:aR:=nG::eU
noncomputable def Bq:aR:=nG::(GI,fW T KS [] 80 Cs)::eU
abbrev uq:List Nat:=[2,3,12,13,14]
abbrev EL (c:Cu) (r i:Nat):List AV:=[.ptr 0 0 3 0 [],.ptr 1 0 3 0 [],eZ c.f c.m r,.int .i64 c.m,.int .i64 i]
abbrev ER (c:Cu) (x w i:Nat):aC:=[(2,⟨true,true,12,i,fun j=>dw (jw (c.f j)) w⟩),(1,⟨false,true,3,1,fun _=>.agg [.int .i64 c.p,aV c.k c.n x,.own 2 12 0 i]⟩),(0,⟨false,true,3,1,fun _=>.agg [.int .i64 0,.nil,.nil]⟩)]
noncomputable abbrev vg:Code:=au wS
def KZ:aR:=nG::(o4,gI kR kR sj mU)::eU
def HX (f:Nat→Pl) (x:Nat→Rat) (b j:Nat):Pl:=
 ⟨⟨mR j fun j=>x j*(f (b+j)).n.x,mR j fun j=>x j*(f (b+j)).n.y,mR j fun j=>x j*(f (b+j)).n.z⟩,mR j fun j=>x j*(f (b+j)).d⟩
def Cr:aR:=nG::(yg,JD)::eU
abbrev ve:List Nat:=[4,5,2,6,7,36,37,38]
abbrev Dj (p i:Nat) (x:Nat→Rat) (j:Nat):List AV:=[.ptr 1 0 12 0 [],.int .i64 0,.ptr 0 0 3 0 [],.ptr 2 0 12 0 [],.int .i64 ((i:Int)-p),.aj 3 (p+1) (fun j=>.rat (x j) sV),.int .i64 ((p+1:Nat):Int),.int .i64 j]
abbrev nD (c:Cu) (r:Nat):ah:=⟨false,true,3,1,fun _=>fE c sK r⟩
noncomputable abbrev sX:Code:=au qz
def yO:AV→Pl
 |.agg [x,y,z,w]=>⟨⟨aT x,aT y,aT z⟩,aT w⟩
 |_=>⟨⟨0,0,0⟩,0⟩
def oE (f:Nat→AV) (n s:Nat):Prop:=∀i,i<n→bA (f i) (dw (yO (f i)) s)
theorem ajw {v:AV} {n s:Nat} {f:Nat→AV} (h:rq v=some (n,f)) (ha:oE f n s):bA v (pJ (fun i=>yO (f i)) n s):=by
 unfold rq at h
 split at h
 ·simp only[Option.some.injEq,Prod.mk.injEq]at h
  obtain⟨rfl,rfl⟩:=h
  exact jh ha
 ·simp only[Option.some.injEq,Prod.mk.injEq]at h
  obtain⟨rfl,rfl⟩:=h
  exact iJ (by omega)
 ·simp at h
theorem Ql {h:Pl} {s:Nat}:bC T KZ [] 80 wQ (au wQ) ⟨aN 0 [dw h s],[],0⟩=
  let c8:Int:=(↑(3:Nat):Int);let c7:Int:=(↑(4:Nat):Int);let c5:Int:=(2:Int)^63;let c4:Prop:=s<2^42;let c2:Prop:=0<1;let c1:Int:=(0:Int)+(1:Int);let c6:Int:=c1+(1:Int);let c3:Prop:=(0:Int)≤(3:Int)∧(3:Int)<c7;some (ag [c3,c2,c4,(1:Nat)<2^42,c2] (ag [(0:Int)≤(0:Int)∧(0:Int)<c7,c2,c3,c2,c4,c4,(0:Int)≤(0:Int)∧(0:Int)<c8,c2] (ag [-c5≤c1∧c1<c5] (ag [(0:Int)≤c1∧c1<c7,c2,c3,c2,c4,c4,(0:Int)≤c1∧c1<c8,c2] (ag [-c5≤c6∧c6<c5] (ag [(0:Int)≤c6∧c6<c7,c2,c3,c2,c4,c4,(0:Int)≤c6∧c6<c8,c2] (ag [-c5≤c6+(1:Int)∧c6+(1:Int)<c5] (ag [c2,c2] (ag [c2] (leaf ret [agg [agg [rat (h.n.x/h.d) (s+s),rat (h.n.y/h.d) (s+s),rat (h.n.z/h.d) (s+s)],rat (h.d+0) (s+1+1)]])))))))))):=by kernel_rfl
theorem ahj {c:Cu} {x r:Nat}:aK T Bq [] 60 uq (before vg [1,1,0,1]) ⟨aN 0 [bE c x r],[],0⟩=
  let c2:Prop:=0<1;let c1:AV:=agg [int i64 (0:Int),nil,nil];some (ag [c2,c2,c2] (ag [c2] (leaf normal ([ptr 4096 0 3 0 [],ptr 28672 0 3 0 [],aj 12 c.m fun i↦agg [agg [rat (c.f i).n.x r,rat (c.f i).n.y r,rat (c.f i).n.z r],rat (c.f i).d r],int i64 (↑c.m:Int),int i64 (0:Int)],[((28672:Nat),ah.mk false true 3 1 fun j↦if(j==0)=true then aU (agg ((c1.kids.set 0 (aU (int i64 c.p))).set 1 (aU (aV c.k c.n x))))else c1),((4096:Nat),ah.mk false true 3 1 fun x↦c1)])))):=by kernel_rfl
theorem ahX {c:Cu} {x r w i:Nat}:aK T Bq [15] 60 uq [part vg [1,1,0,1,0,0]] ⟨aB uq (EL c r i),ER c x w i,3⟩=
  let c17:Int:=(↑c.m:Int);let c16:Int:=(↑(3:Nat):Int);let c15:AV:=own 2 12 0 i;let c14:AV:=ptr 1 0 3 0 [];let c13:AV:=ptr 0 0 3 0 [];let c12:Int:=(↑(4:Nat):Int);let c11:Int:=(↑i:Int);let c10:AV:=rat 0 1;let c7:Nat×ah:=((0:Nat),ah.mk false true 3 1 fun x↦agg [int i64 (0:Int),nil,nil]);let c5:AV:=aj 12 c.m fun i↦agg [agg [rat (c.f i).n.x r,rat (c.f i).n.y r,rat (c.f i).n.z r],rat (c.f i).d r];let c4:Int:=(2:Int)^63;let c3:Prop:=r<2^42;let c2:Int:=(0:Int)+(1:Int);let c1:Prop:=0<1;let c18:Int:=c11+(1:Int);let c9:AV:=agg [int i64 c.p,aV c.k c.n x,c15];let c8:Int:=c2+(1:Int);let c6:Pl:=c.f c11.toNat;some (fork (decide (c11<c17)) (ag [(0:Int)≤c11∧c11.toNat<c.m,c1] (ag [c1,c1,c1,(0:Int)≤(0:Int)∧(0:Int)<c16,c1,c1,c1,c3,c3,(0:Int)≤(0:Int)∧(0:Int)<c12,c1,-c4≤c2∧c2<c4,(0:Int)≤c2∧c2<c16,c1,c1,c1,c3,c3,(0:Int)≤c2∧c2<c12,c1,-c4≤c8∧c8<c4,(0:Int)≤c8∧c8<c16,c1,c1,c1,c3,c3,(0:Int)≤c8∧c8<c12,c1,-c4≤c8+(1:Int)∧c8+(1:Int)<c4,c1,c3,(1:Nat)<2^42,(0:Int)≤(3:Int)∧(3:Int)<c12,c1,c1,c1,c1,(1:Nat)*12≤2^24,(i+1)*((224:Nat)+1)*2≤2^47,c1] (ag [-c4≤c18∧c18<c4] (leaf normal ([c13,c14,c5,int i64 c17,int i64 c18],[((40963:Nat),ah.mk true true 12 (i+1) fun i_1↦if i_1<i then dw (jw (c.f i_1)) w else nth [agg [rat (c6.d*c6.n.x) (r+r),rat (c6.d*c6.n.y) (r+r),rat (c6.d*c6.n.z) (r+r),rat (c6.d+0) (r+1+1)]] (agg [c10,c10,c10,c10]) (i_1-i+0)),((1:Nat),ah.mk false true 3 1 fun j↦if(j==0)=true then agg (c9.kids.set 2 (aU (own (nat_lit 40962+1) 12 0 (i+1))))else c9),c7]))))) (leaf (exit 0) ([c13,c14,c5,int i64 c17,int i64 c11],[((2:Nat),ah.mk true true 12 i fun j↦agg [rat ((c.f j).d*(c.f j).n.x) w,rat ((c.f j).d*(c.f j).n.y) w,rat ((c.f j).d*(c.f j).n.z) w,rat (c.f j).d w]),((1:Nat),ah.mk false true 3 1 fun x_1↦agg [int i64 c.p,aj 3 c.n fun i↦rat (c.k i) x,c15]),c7]))):=by kernel_rfl
theorem Zq {c:Cu} {x r w i:Nat}:bW T Bq [] 60 wS [part vg [1,1,1]] ⟨aB uq (EL c r i),ER c x w i,3⟩=
  let c1:Prop:=0<1;some (ag [c1,c1] (ag [c1] (leaf ret [agg [int i64 c.p,aj 3 c.n fun i↦rat (c.k i) x,aj 12 i fun i↦agg [rat ((c.f (i+0)).d*(c.f (i+0)).n.x) w,rat ((c.f (i+0)).d*(c.f (i+0)).n.y) w,rat ((c.f (i+0)).d*(c.f (i+0)).n.z) w,rat (c.f (i+0)).d w]]]))):=by kernel_rfl
theorem UZ {c:Cu} {r:Nat} {t:Rat}:aK T Cr [25,34] 60 ve (before sX [1,1,1,1,0,1]) ⟨aN 0 [fE c sK r,.rat t sK],[],0⟩=
  let c16 : Nat := cS c.n (fun i ↦ aT (rat (c.k i) sK)) t; let c15 : Prop := eE c.n (fun i ↦ aT (rat (c.k i) sK)) t; let c14 : AV := ptr 8192 0 12 0 []; let c13 : AV := ptr 16384 0 12 0 []; let c12 : AV := ptr 0 0 (aU (fE c sK r)).size 0 []; let c11 : AV := rat 0 1; let c10 : Prop := 0 < 1; let c8 : Bool := eA c.n (fun i ↦ aT (rat (c.k i) sK)) t != (0 : Int); let c6 : Nat × ah := ((0 : Nat), ah.mk false true (aU (fE c sK r)).size 1 fun x ↦ agg [int i64 c.p, aj 3 c.n fun i ↦ rat (c.k i) 4096, aj 12 c.m fun i ↦ agg [rat (c.f i).n.x r, rat (c.f i).n.y r, rat (c.f i).n.z r, rat (c.f i).d r]]); let c7 : Nat := if c15 then 0 else c.p.toNat + 1; let c5 : Int := if c15 then (0 : Int) else (↑c16 : Int) - (↑c.p.toNat : Int); let c4 : AV := agg [c11, c11, c11, c11]; let c9 : ah := ah.mk false true 12 1 fun x ↦ c4; let c3 : Int := c5 + (↑c7 : Int); let c2 : aa (List AV × aC) := leaf normal ([c14, int i64 (0 : Int), c12, c13, int i64 c5, aj 3 c7 fun j ↦ rat (vB (fun i ↦ aT (rat (c.k i) sK)) c16 t c.p.toNat j) 268435456, int i64 (↑c7 : Int), int i64 (0 : Int)], [((16384 : Nat), c9), c6, ((8192 : Nat), c9)]); let c1 : aa (List AV × aC) := ag [c10] (leaf ret ([c14, int i64 (7 : Int), c12, c13, int i64 c5, tuple [], tuple [], tuple []], [((16384 : Nat), c9), c6, ((8192 : Nat), ah.mk false true 12 1 fun j ↦ if (j == 0) = true then aU (agg c4.kids) else c4)])); some (ag [c10, c10, c10, bP (fun i ↦ rat (c.k i) sK) c.n sK, sK ≤ sK, Kn c.n c.p.toNat fun i ↦ aT (rat (c.k i) sK), (0 : Int) ≤ c.p, c.p ≤ (6 : Int), c.n < 2 ^ 40] (fork c8 (ag [c8 = true] (fork true c1 c2)) (ag [c8 = false, -(2 : Int) ^ 63 ≤ c3 ∧ c3 < (2 : Int) ^ 63, c10] (fork (bif false then true else decide (c3 > (↑c.m : Int))) c1 c2)))) := by kernel_rfl
theorem SD {c:Cu} {h:Pl} {p i j s r:Nat} {x:Nat→Rat}:aK T Cr [39] 60 ve [part sX [1,1,1,1,0,1,0,0]] ⟨aB ve (Dj p i x j),[(2,kS h s),(1,kS ⟨⟨0,0,0⟩,0⟩ 1),(0,nD c r)],3⟩=
  let c29:Int:=(↑i:Int)-(↑p:Int);let c26:AV:=ptr 0 0 3 0 [];let c24:AV:=ptr 2 0 12 0 [];let c23:AV:=ptr 1 0 12 0 [];let c21:AV:=rat 0 1;let c20:Int:=(↑(p+1):Int);let c19:AV:=aj 3 (p+1) fun j↦rat (x j) 268435456;let c16:Int:=(↑j:Int);let c15:Bool:=0==0;let c10:Int:=(↑(4:Nat):Int);let c9:Int:=(0:Int)+(1:Int);let c8:Nat:=2^42;let c7:Prop:=0<1;let c6:Int:=(2:Int)^63;let c33:Prop:=sV+r<c8;let c32:Rat:=x c16.toNat;let c31:Int:=c16+(1:Int);let c28:Prop:=(0:Int)≤c9∧c9<c10;let c18:Prop:=(0:Int)≤(0:Int)∧(0:Int)<c10;let c4:List (Nat×ah):=[((0:Nat),ah.mk false true 3 1 fun x↦agg [int i64 c.p,aj 3 c.n fun i↦rat (c.k i) 4096,aj 12 c.m fun i↦agg [rat (c.f i).n.x r,rat (c.f i).n.y r,rat (c.f i).n.z r,rat (c.f i).d r]]),((1:Nat),ah.mk false true 12 1 fun x↦agg [c21,c21,c21,c21])];let c3:Int:=c9+(1:Int);let c2:Int:=c29+c16;let c30:Pl:=c.f c2.toNat;let c27:Prop:=(0:Int)≤c3∧c3<c10;let c25:Prop:=-c6≤c2∧c2<c6;let c17:Prop:=(0:Int)≤c2∧c2.toNat<c.m;let c12:Int:=c3+(1:Int);let c22:Prop:=(0:Int)≤c12∧c12<c10;let c11:AV:=agg ((dw h s).kids.set (Int.toNat (0:Int)) (aU (kz (h.n.x,s) (c32*c30.n.x,sV+r))));let c5:AV:=if c15=true then c11 else dw h s;let c13:AV:=agg (c5.kids.set c9.toNat (aU (kz (h.n.y,s) (c32*c30.n.y,sV+r))));let c1:AV:=if c15=true then c13 else c5;let c14:AV:=agg (c1.kids.set c3.toNat (aU (kz (h.n.z,s) (c32*c30.n.z,sV+r))));some (fork (decide (c16<c20)) (ag [(0:Int)≤c16∧c16.toNat<p+1,c7] (ag [c18,c7,c7,c7,c25,c17,c18,sV<c8,r<c8,s<c8,c33,c18,c7] (ag [-c6≤c9∧c9<c6] (ag [c28,c7,c7,c7,c25,c17,c28,sV<c8,r<c8,s<c8,c33,c28,c7] (ag [-c6≤c3∧c3<c6] (ag [c27,c7,c7,c7,c25,c17,c27,sV<c8,r<c8,s<c8,c33,c27,c7] (ag [-c6≤c12∧c12<c6] (ag [c22,c7,c7,c7,c25,c17,c22,sV<c8,r<c8,s<c8,c33,c22,c7] (ag [-c6≤c12+(1:Int)∧c12+(1:Int)<c6] (ag [-c6≤c31∧c31<c6] (leaf normal ([c23,int i64 (0:Int),c26,c24,int i64 c29,c19,int i64 c20,int i64 c31],((2:Nat),ah.mk false true 12 1 fun j↦if(j==0)=true then agg ((if c15=true then c14 else c1).kids.set c12.toNat (aU (kz (h.d,s) (c32*c30.d,sV+r))))else if(j==0)=true then c14 else if(j==0)=true then c13 else if(j==0)=true then c11 else dw h s)::c4)))))))))))) (leaf (exit 0) ([c23,int i64 (0:Int),c26,c24,int i64 c29,c19,int i64 c20,int i64 c16],((2:Nat),ah.mk false true 12 1 fun x↦agg [rat h.n.x s,rat h.n.y s,rat h.n.z s,rat h.d s])::c4))):=by kernel_rfl
theorem ad4 {c:Cu} {h:Pl} {p i j s r:Nat} {x:Nat→Rat}:bW T Cr [] 60 qz [part sX [1,1,1,1,1]] ⟨aB ve (Dj p i x j),[(2,kS h s),(1,kS ⟨⟨0,0,0⟩,0⟩ 1),(0,nD c r)],3⟩=
  let c1:Prop:=0<1;some (ag [c1,c1] (ag [c1] (leaf ret [agg [rat h.n.x s,rat h.n.y s,rat h.n.z s,rat h.d s],int i64 (0:Int)]))):=by kernel_rfl
theorem aiA:aX P KS:=cC fC
theorem aax:aX P Bq:=cC (aJ (gj hT aiA hm Sd _ _) fC)
theorem VF:aX P KZ:=cC (aJ (gZ fun _ _ K hn=>vt hn.1 hn.2 K) fC)
theorem Nc:aX P Cr:=cC (aJ ag3 fC)
theorem Et {rl:List (Nat×Nat)} {l i:Nat} {f g:Nat→AV} {v z:AV} (hf:∀i,i<l→f i=g i∧keys (f i)=[]) (hk:keys v=[]) (hv:bA v (g l)) (hi:i<l+1):fc rl (if i<l then f i else nth [v] z (i-l+0)) (g i):=by
 by_cases h:i<l
 ·rw[if_pos h];exact aD (hf i h).2 (hf i h).1
 ·have:i=l:=by omega
  subst this
  rw[if_neg h,Nat.sub_self]
  exact .inr ⟨hk,hv⟩
theorem rB {rl:List (Nat×Nat)} {p:Int} {v:AV} {a b i:Nat} (hv:keys v=[]) (ht:v.isTuple=false) (h:aS rl b=some a):fc rl (.agg [.int .i64 p,v,.own a 12 0 i]) (.agg [.int .i64 p,v,.own b 12 0 i]):=
 gv ⟨⟨rfl,aG rfl⟩,⟨ht,aG hv⟩,⟨rfl,bY h rfl rfl⟩,trivial⟩
theorem BK {h h':Pl} {s s':Nat} (e:h=h') (hs:s≤s'):bA (dw h s) (dw h' s'):=e▸bQ ⟨bp rfl hs,bp rfl hs,bp rfl hs,bp rfl hs,trivial⟩
theorem ON {h:Pl} {s w:Nat} (hs:s<2^40) (h1:s+s≤w) (h2:s+2≤w) (K:Nat):aA P pe K [dw h s] [] (aI (bw (jz h) w) []):=by
 refine bF (r:=aI (bw (jz h) w) []) hT VF hm aeR rfl (of_decide_eq_true (by kernel_rfl)) rfl 80 Ql (fun _=>?_) K []
 simp only[aa.all,ax]
 (repeat' with_reducible refine And.intro ?_ ?_)
 all_goals first|omega|skip
 exact bQ ⟨bQ ⟨bp rfl h1,bp rfl h1,bp rfl h1,trivial⟩,bp (Rat.add_zero _) (by omega),trivial⟩
theorem Lq {c:Cu} {x r w:Nat} (h1:r+r≤w) (h2:r+2≤w) (hw:w<2^40) (hn:c.n<2^40) (hm2:c.m<2^30) (K:Nat):aA P qL K [bE c x r] [] (aI (.agg [.int .i64 c.p,aV c.k c.n x,pJ (fun i=>jw (c.f i)) c.m w]) []):=by
 refine fK (r:=aI (.agg [.int .i64 c.p,aV c.k c.n x,pJ (fun i=>jw (c.f i)) c.m w]) []) hT aax hm agM rfl (of_decide_eq_true (by kernel_rfl)) rfl [1,1,0,1] (i:=0) (y:=part vg [1,1,0,1,0,0]) (z:=part vg [1,1,1]) (by kernel_rfl) (by kernel_rfl) (by kernel_rfl) (f1:=[]) (f2:=[15]) (f3:=[]) 60 uq 3
  (fun i:Nat=>EL c r i) (fun i=>ER c x w i) (fun i=>i≤c.m) (fun i=>i=c.m) (fun i=>c.m-i) (fun _=>⟨⟨_,ahj,?_⟩,fun i hi=>⟨_,ahX,?_⟩,fun i hi=>⟨_,Zq,?_⟩⟩) K []
 ·simp only[aa.all,ax]
  exact⟨by omega,by omega,0,Nat.zero_le _,[(0,4096),(1,28672)],rfl,rfl,rfl,jy rfl (by omega) (by omega) (aF rfl rfl (gv ⟨⟨rfl,aG rfl⟩,⟨rfl,aG rfl⟩,⟨rfl,me (by omega)⟩,trivial⟩) (aF rfl rfl (aD rfl rfl) trivial))⟩
 ·set_option maxRecDepth 10000 in simp only[aa.all,ax,decide_eq_true_eq,decide_eq_false_iff_not,Int.toNat_natCast,Nat.add_zero]
  refine⟨fun h=>⟨by omega,by omega,by omega,i+1,by omega,by dsimp only;omega,[(0,0),(1,1),(2,40963)],rfl,rfl,rfl,aW rfl rfl rfl (fun j hj=>Et (g:=fun j=>dw (jw (c.f j)) w) (fun _ _=>⟨rfl,rfl⟩) rfl (bQ ⟨bp rfl h1,bp rfl h1,bp rfl h1,bp (Rat.add_zero _) (by omega),trivial⟩) hj) (aF rfl rfl (rB rfl rfl rfl) (aF rfl rfl (aD rfl rfl) trivial))⟩,
   fun h=>⟨rfl,i,by omega,[(0,0),(1,1),(2,2)],rfl,rfl,rfl,aW rfl rfl rfl (fun _ _=>aD rfl rfl) (aF rfl rfl (rB rfl rfl rfl) (aF rfl rfl (aD rfl rfl) trivial))⟩⟩
 ·subst hi
  simp only[aa.all,ax]
  exact⟨by omega,by omega,.refl _⟩
theorem Vx {c:Cu} {r:Nat}:jl T qz .ret ⟨aB [4,5,2,6] [.ptr 8192 0 12 0 [],.int .i64 7,.ptr 0 0 3 0 [],.ptr 16384 0 12 0 []],[(16384,⟨false,true,12,1,fun _=>.agg [.rat 0 1,.rat 0 1,.rat 0 1,.rat 0 1]⟩),(0,nD c r),(8192,⟨false,true,12,1,fun j=>if(j==0)=true then aU (.agg (AV.kids (.agg [.rat 0 1,.rat 0 1,.rat 0 1,.rat 0 1])))else .agg [.rat 0 1,.rat 0 1,.rat 0 1,.rat 0 1]⟩)],16385⟩=
  let c1:AV:=rat 0 1;some (ag [(0:Nat)<1] (leaf ret [agg [c1,c1,c1,c1],int i64 (7:Int)])):=by kernel_rfl
def nc (c:Cu) (t:Rat):Pl:=if eE c.n c.k t then⟨⟨0,0,0⟩,0⟩else HX c.f (vB c.k (cS c.n c.k t) t c.p.toNat) (cS c.n c.k t-c.p.toNat) (c.p.toNat+1)
theorem acs {c:Cu} {t:Rat} {r s:Nat} (hr:1+7*(sV+r+1)≤s) (hs:s<2^40) (hk:Kn c.n c.p.toNat c.k) (h0:0≤c.p) (h6:c.p≤6) (hn:c.n<2^40) (hm2:(c.m:Int)=(c.n:Int)-c.p-1) (K:Nat):aA P zN K [fE c sK r,.rat t sK] [] (aI (.tuple [dw (nc c t) s,.int .i64 (eA c.n c.k t)]) []):=by
 refine gz (r:=aI (.tuple [dw (nc c t) s,.int .i64 (eA c.n c.k t)]) []) hT KI rfl (of_decide_eq_true (by kernel_rfl)) rfl (fun _ cx h00=>?_) K []
 have hkp:=nW h00
 obtain⟨q,hq⟩:∃q,q=c.p.toNat:=⟨_,rfl⟩
 have hq2:c.p=(q:Int):=by omega
 obtain⟨i,hi⟩:∃i,i=cS c.n c.k t:=⟨_,rfl⟩
 obtain⟨x,hx⟩:∃x,x=vB c.k i t q:=⟨_,rfl⟩
 have h1:sK=4096:=rfl
 have h2:sV=268435456:=rfl
 have z0:1+0*(sV+r+1)=1:=by omega
 have zle:∀j,j≤7→1+j*(sV+r+1)≤s:=fun j hj=>by
  have:=Nat.mul_le_mul_right (sV+r+1) hj
  omega
 refine aq.iM hT Nc hm (x:=sX) [1,1,1,1,0,1] (i:=0) (y:=part sX [1,1,1,1,0,1,0,0]) (z:=part sX [1,1,1,1,1]) (by kernel_rfl) (by kernel_rfl) (by kernel_rfl) KI.dst hkp (f1:=[25,34]) (f2:=[39]) 60 ve 3 (fun j:Nat=>Dj q i x j) (fun j=>[(2,kS (HX c.f x (i-q) j) (1+j*(sV+r+1))),(1,kS ⟨⟨0,0,0⟩,0⟩ 1),(0,nD c r)])
  (fun j=>j≤q+1∧¬eE c.n c.k t) (fun j=>j=q+1∧¬eE c.n c.k t) (fun j=>q+1-j) (qO T qz [4,5,2,6] (.tuple [dw (nc c t) s,.int .i64 (eA c.n c.k t)])) ⟨_,UZ,?_⟩ (fun j ⟨hj,hin⟩=>⟨_,SD,?_⟩) (fun j ⟨hj,hin⟩=>?_) (fun v s' hv hs'=>hv.fin (L1:=[7,36,37,38]) hkp hs')
 ·simp only[aa.all,ax,wk,bne_iff_ne,ne_eq,bne_eq_false_iff_eq]
  have hko:eE c.n (fun i=>c.k i) t=eE c.n c.k t:=rfl
  have hkE:eA c.n (fun i=>c.k i) t=eA c.n c.k t:=rfl
  have hkI:cS c.n (fun i=>c.k i) t=cS c.n c.k t:=rfl
  simp only[hko,hkE,hkI]
  refine⟨⟨by omega,by omega,by omega,cU (Nat.le_refl _),Nat.le_refl _,hk,h0,h6,hn⟩,fun hout=>⟨hout,fun _=>⟨by omega,?_⟩,fun h=>absurd h (by decide)⟩,fun he=>?_⟩
  ·have ho:=Mi hout
   refine⟨[_,_,_,_],_,16385,_,rfl,rfl,rfl,Vx,rfl,⟨⟨by omega,fun i _=>rfl⟩,⟨by omega,fun i _=>rfl⟩,⟨by omega,fun i _=>AN rfl rfl⟩,trivial⟩,Nat.zero_lt_one,?_⟩
   exact⟨BK (h:=⟨⟨0,0,0⟩,0⟩) (by unfold nc;rw[if_pos ho]) (by omega),bt (by unfold eA;rw[if_pos ho]),trivial⟩
  ·have hin:=HW he
   have hiv:=hk.Gh hin
   simp only[if_neg hin]
   refine⟨⟨he,by omega,by omega⟩,fun h=>?_,fun _=>⟨0,⟨Nat.zero_le _,hin⟩,[(0,0),(1,8192),(2,16384)],rfl,?_,rfl,aF rfl rfl (aD rfl (by rw[z0];rfl)) (aF rfl rfl (aD rfl rfl) (aF rfl rfl (aD rfl rfl) trivial))⟩⟩
   ·exfalso
    rw[cond_false,decide_eq_true_eq]at h
    omega
   ·show _=(Dj q i x 0).map _
    rw[hx,hq,hi];rfl
 ·have hiv:=hk.Gh hin
  rw[←hi,←hq]at hiv
  simp only[aa.all,ax,decide_eq_true_eq,decide_eq_false_iff_not,show((i:Int)-q+j).toNat=i-q+j by omega,Int.toNat_natCast]
  refine⟨fun h=>?_,fun h=>⟨rfl,j,⟨by omega,hin⟩,[(0,0),(1,1),(2,2)],rfl,rfl,rfl,aF rfl rfl (aD rfl rfl) (aF rfl rfl (aD rfl rfl) (aF rfl rfl (aD rfl rfl) trivial))⟩⟩
  have hz:=zle j (by omega)
  have hzS:1+(j+1)*(sV+r+1)=1+j*(sV+r+1)+(sV+r+1):=by rw[Nat.add_mul,Nat.one_mul];omega
  have hz2:=zle (j+1) (by omega)
  generalize 1+j*(sV+r+1)=zj at*
  (repeat' with_reducible refine And.intro ?_ ?_)
  all_goals first|omega|skip
  exact⟨j+1,⟨by omega,hin⟩,by dsimp only;omega,[(0,0),(1,1),(2,2)],rfl,rfl,rfl,aF rfl rfl (.inr ⟨rfl,bQ ⟨bp rfl (by omega),bp rfl (by omega),bp rfl (by omega),bp rfl (by omega),trivial⟩⟩) (aF rfl rfl (aD rfl rfl) (aF rfl rfl (aD rfl rfl) trivial))⟩
 ·subst hj
  refine aq.ni ((aE.fin hT Nc hm 60 ad4 (by kernel_rfl) ?_).mono fun _ _ h=>.inl h)
  simp only[aa.all,ax]
  have hz:=zle (q+1) (by omega)
  refine⟨by omega,by omega,?_,bt (by unfold eA;rw[if_neg hin]),trivial⟩
  exact BK (by unfold nc;rw[if_neg hin,←hi,←hq,←hx]) hz
def yP (s r:Nat):Kind Cu:=⟨fun v=>match v with
 |.agg [p,k,f]=>match kI.read p,(kL s).read k,rq f with
  |some (p,q1),some ((n,k),q2),some (m,f)=>some (⟨p,n,k,m,fun i=>yO (f i)⟩,q1++(q2++[oE f m r]))
  |_,_,_=>none
 |_=>none,fun a=>fE a s r,fun {v a q} h hq=>by
  split at h
  ·split at h
   ·rename_i h1 h2 h3
    simp only[Option.some.injEq,Prod.mk.injEq]at h
    obtain⟨rfl,rfl⟩:=h
    obtain⟨q1,hq⟩:=cE.1 hq
    obtain⟨q2,q3⟩:=cE.1 hq
    exact bQ ⟨kI.ok h1 q1,(kL s).ok h2 q2,ajw h3 q3,trivial⟩
   ·simp at h
  ·simp at h⟩
def LO:Spec:=cJ (kC (gx sJ sJ) kN) (fun a=>fE ⟨a.1.p,a.1.n,a.1.k,a.1.m,fun i=>jw (a.1.f i)⟩ sJ (sJ+sJ)) fun a=>[a.1.n<2^40,a.1.m<2^30]
def PA:Spec:=cJ (kC (yP sK (sJ+sJ)) (kC (iG sK) kN)) (fun a=>.tuple [dw (nc a.1 a.2.1) sH,.int .i64 (eA a.1.n a.1.k a.2.1)]) fun a=>[Kn a.1.n a.1.p.toNat a.1.k,0≤a.1.p,a.1.p≤6,a.1.n<2^40,(a.1.m:Int)=(a.1.n:Int)-a.1.p-1]
def KU:Spec:=cJ (kC (Nv sH) kN) (fun a=>bw (jz a.1) sE) fun _=>[]
def dY (c:Cu):Prop:=Kn c.n c.p.toNat c.k∧1≤c.p∧c.p≤6∧c.n≤c.p.toNat+41∧(c.m:Int)=(c.n:Int)-c.p-1
noncomputable def Jy:aR:=nG::(sr,Ea)::(qq,wK)::[]
def Dh:Spec:=cJ (kC (gx sJ sJ) kN) (fun _=>.bool true) fun a=>[dY a.1]
noncomputable def IF:aR:=nG::(qW,Dh)::(qL,LO)::(zN,PA)::(pe,KU)::[]
theorem Xk {c:Cu}:bC T Jy [100009] 60 yc (au yc) ⟨aN 0 [bE c sJ sJ],[],0⟩=
  let c2:Prop:=c.n<2^40;let c1:Prop:=0<1;some (ag [c1,c1,bP (fun i↦rat (c.k i) sJ) c.n sJ,c2,(fX c.n (fun i↦aT (rat (c.k i) sJ)) c.p==(0:Int))=true,c1,c1,c1,bP (fun i↦rat (c.k i) sJ) c.n sK,c2,-(2:Int)^40<c.p,c.p<(2:Int)^40] (leaf ret [AV.bool (bif true then(↑c.m:Int)==(↑c.n:Int)-c.p-(1:Int)else false)])):=by kernel_rfl
theorem ZG {c:Cu} {t:Rat}:bC T IF [20] 60 wV (au wV) ⟨aN 0 [bE c sJ sJ,.rat t sK],[],0⟩=
  let c7 : Prop := c.n < 2 ^ 40; let c6 : Prop := eM (fun i ↦ bw (c.f i) sJ) c.m sJ; let c5 : Prop := bP (fun i ↦ rat (c.k i) sJ) c.n sJ; let c4 : AV := rat 0 1; let c3 : Int := eA c.n (fun i ↦ aT (rat (aT (rat (c.k i) sJ)) sJ)) t; let c2 : Prop := 0 < 1; let c1 : Pl := nc (Cu.mk c.p c.n (fun i ↦ aT (rat (aT (rat (c.k i) sJ)) sJ)) c.m fun i ↦ yO (dw (jw (dP (bw (c.f i) sJ))) (sJ + sJ))) t; some (ag [c2, c5, c6, dY (Cu.mk c.p c.n (fun i ↦ aT (rat (c.k i) sJ)) c.m fun i ↦ dP (bw (c.f i) sJ))] (ag [c2, c5, c6, c7, c.m < 2 ^ 30, c2, bP (fun i ↦ rat (aT (rat (c.k i) sJ)) sJ) c.n sK, oE (fun i ↦ dw (jw (dP (bw (c.f i) sJ))) (sJ + sJ)) c.m (sJ + sJ), sK ≤ sK, Kn c.n c.p.toNat fun i ↦ aT (rat (aT (rat (c.k i) sJ)) sJ), (0 : Int) ≤ c.p, c.p ≤ (6 : Int), c7, (↑c.m : Int) = (↑c.n : Int) - c.p - (1 : Int), c2] (fork (c3 != (0 : Int)) (ag [c2] (ag [c2] (leaf ret [agg [c4, c4, c4], int i64 c3]))) (ag [c2, sH ≤ sH, sH ≤ sH, sH ≤ sH, sH ≤ sH, c2] (ag [c2] (leaf ret [agg [rat (c1.n.x / c1.d) 4294967298, rat (c1.n.y / c1.d) 4294967298, rat (c1.n.z / c1.d) 4294967298], int i64 (0 : Int)])))))) := by kernel_rfl
theorem Qr:∀K args pre r,LO K args pre=some r→aA P qL K args pre r:=cz fun⟨c,_⟩ K hn=>Lq (Nat.le_refl _) (by decide) (by decide) hn.1 hn.2 K
theorem TC:∀K args pre r,PA K args pre=some r→aA P zN K args pre r:=cz fun⟨c,t,_⟩ K hn=>acs (by decide) (by decide) hn.1 hn.2.1 hn.2.2.1 hn.2.2.2.1 hn.2.2.2.2 K
theorem ai8:∀K args pre r,KU K args pre=some r→aA P pe K args pre r:=cz fun⟨h,_⟩ K _=>ON (by decide) (by decide) (by decide) K
theorem Qg:aX P Jy:=cC (aJ LL (aJ C5 bn))
theorem Gs:∀K args pre r,Dh K args pre=some r→aA P qW K args pre r:=cz fun⟨c,_⟩ K hn=>by
 obtain⟨h1,h2,h3,h4,h5⟩:dY c:=hn
 refine bF (r:=aI (.bool true) []) hT Qg hm Za rfl (of_decide_eq_true (by kernel_rfl)) rfl 60 Xk (fun _=>?_) K []
 have hc0:fX c.n c.k c.p=0:=by have:=h1.Km (by omega) h4;rwa [Int.toNat_of_nonneg (by omega)]at this
 simp only[aa.all,ax]
 exact⟨⟨by omega,by omega,cU (Nat.le_refl _),by omega,beq_iff_eq.2 hc0,by omega,by omega,by omega,cU (by decide),by omega,by omega,by omega⟩,eV (beq_iff_eq.2 h5)⟩
theorem aie:aX P IF:=cC (aJ Gs (aJ Qr (aJ TC (aJ ai8 bn))))
theorem div_one {a b:Rat}:a/b=((1:Int):Rat)/b*a:=by
 rw[Rat.div_def,Rat.div_def,show((1:Int):Rat)=1 from rfl,Rat.one_mul,Rat.mul_comm]
theorem aac {h:Pl}:(jz h).n=LV h:=by
 show V3.mk (h.n.x/h.d) (h.n.y/h.d) (h.n.z/h.d)=V3.mk _ _ _
 rw[div_one (a:=h.n.x),div_one (a:=h.n.y),div_one (a:=h.n.z)]
def NA:Spec:=cJ (kC (gx sJ sJ) (kC (iG sK) kN)) (fun a=>.tuple [vA (De a.1 a.2.1) sE,.int .i64 (eA a.1.n a.1.k a.2.1)]) fun a=>[dY a.1]
theorem aaD:∀K args pre r,NA K args pre=some r→aA P BM K args pre r:=cz fun⟨c,t,_⟩ K hn=>by
 have hc:dY c:=hn
 obtain⟨h1,h2,h3,h4,h5⟩:=id hc
 refine bF (r:=aI (.tuple [vA (De c t) sE,.int .i64 (eA c.n c.k t)]) []) hT aie hm XG rfl (of_decide_eq_true (by kernel_rfl)) rfl 60 ZG (fun _=>?_) K []
 have e1:eA c.n (fun i=>aT (rat (aT (rat (c.k i) sJ)) sJ)) t=eA c.n c.k t:=rfl
 simp only[aa.all,ax,e1,bne_iff_ne,ne_eq,bne_eq_false_iff_eq]
 refine⟨⟨by omega,cU (Nat.le_refl _),iB (Nat.le_refl _),hc⟩,⟨by omega,cU (Nat.le_refl _),iB (Nat.le_refl _),by omega,by omega,by omega,cU (by decide),fun _ _=>.refl _,Nat.le_refl _,h1,by omega,h3,by omega,h5,by omega⟩,fun hout=>⟨by omega,by omega,?_⟩,fun hin=>⟨⟨by omega,Nat.le_refl _,Nat.le_refl _,Nat.le_refl _,Nat.le_refl _,by omega⟩,by omega,?_⟩⟩
 ·refine⟨kA (u:=⟨0,0,0⟩) (by unfold De;rw[if_pos (Mi hout)]) (by decide),.refl _,trivial⟩
 ·have ho:=HW hin
  refine⟨kA (u:=(jz (nc ⟨c.p,c.n,c.k,c.m,fun i=>jw (c.f i)⟩ t)).n) ?_ (by decide),bt hin.symm,trivial⟩
  rw[aac]
  unfold De nc
  rw[if_neg ho,if_neg ho];rfl
end Go.Am.B
