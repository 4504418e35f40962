/- g8.Join, ref10.Join. -/
import Derived.Test.YtppeigelbecpbaaGreatY49
import Derived.Test.YtppeigelbecpbaaGreatY48
import Derived.Test.YtppeigelbecpbaaGreatZ2
set_option linter.unusedVariables false
namespace Go.Am.B
open Go Go.Am.N AV aa ak IntKind
theorem IM:aO P z6 oU (au oU):=aP VY (by kernel_rfl) (by kernel_rfl) (by kernel_rfl)
theorem Kh:aO P uL oL (au oL):=aP SU (by kernel_rfl) (by kernel_rfl) (by kernel_rfl)
def kj (c d:Cu) (i:Nat):Rat:=if i<c.n-1 then c.k i else d.k (i-(c.n-1)+(d.p.toNat+1))+(c.k (c.n-1)-d.k 0)
def qy (c d:Cu):Rat:=(c.f (c.m-1)).d/(d.f 0).d
def mY (c d:Cu) (i:Nat):Pl:=if i<c.m then c.f i else⟨(d.f (i-c.m+1)).n,qy c d*(d.f (i-c.m+1)).d⟩
def fm (c d:Cu):Int:=if c.p≠d.p then 1 else if(c.f (c.m-1)).n.x=(d.f 0).n.x∧(c.f (c.m-1)).n.y=(d.f 0).n.y∧(c.f (c.m-1)).n.z=(d.f 0).n.z then 0 else 7
def gB (c d:Cu):Cu:=if fm c d=0 then⟨c.p,c.n-1+(d.n-(d.p.toNat+1)),kj c d,c.m+(d.m-1),mY c d⟩else⟨0,0,fun _=>0,0,fun _=>⟨⟨0,0,0⟩,0⟩⟩
def Pd (c:Cu):Nat→Nat
 |0=>c.n
 |i+1=>c.n-1+(i+1)
def H9 (c d:Cu):Nat→Nat→Rat
 |0=>c.k
 |_+1=>kj c d
noncomputable def J4:aR:=[(I6,fW T (sG::vj) [16] 60 H8)]
noncomputable def r4:aR:=nG::(qW,Dh)::(mM,KR 64 64 64 100 1000)::(o4,gI kR kR sj mU)::(G4++(J4++(Eg++eU)))
noncomputable abbrev zA:Code:=au oU
noncomputable abbrev qE:Code:=part zA [1,1,1,1,1,1,1,1]
abbrev jk (c:Cu):ah:=⟨false,true,3,1,fun _=>bE c 64 64⟩
abbrev E7 (p:Int) (a b n m:Nat):ah:=⟨false,true,3,1,fun _=>.agg [.int .i64 p,.own a 3 0 n,.own b 12 0 m]⟩
abbrev vP:List Nat:=[4,5,2,3,6,7,87,88,89]
abbrev Fj (c d:Cu) (i:Nat):List AV:=[.ptr 0 0 3 0 [],.int .i64 0,.ptr 1 0 3 0 [],.ptr 2 0 3 0 [],.ptr 3 0 3 0 [],.ptr 4 0 3 0 [],aV (fun i=>d.k (i+(d.p.toNat+1))) (d.n-(d.p.toNat+1)) 64,.int .i64 ((d.n-(d.p.toNat+1):Nat):Int),.int .i64 i]
abbrev GK (c d:Cu) (u:Rat) (f:Nat→Rat) (N l:Nat):aC:=[(5,jJ 400 N f),(6,lC c.m c.f 1000),(4,tP u 200),(3,E7 c.p 5 6 l c.m),(2,jk d),(1,jk c),(0,Gq)]
abbrev v5:List Nat:=[4,5,2,3,6,10,122,123,124]
abbrev Hp (c d:Cu) (i:Nat):List AV:=[.ptr 0 0 3 0 [],.int .i64 0,.ptr 1 0 3 0 [],.ptr 2 0 3 0 [],.ptr 3 0 3 0 [],.ptr 4 0 3 0 [],eZ (fun i=>d.f (i+1)) (d.m-1) 64,.int .i64 ((d.m-1:Nat):Int),.int .i64 i]
abbrev E1 (c d:Cu) (u:Rat) (f:Nat→Rat) (g:Nat→Pl) (n m:Nat):aC:=[(5,jJ 400 n f),(6,lC m g 1000),(4,tP u 200),(3,E7 c.p 5 6 n m),(2,jk d),(1,jk c),(0,Gq)]
theorem ai1 {c d:Cu}:aK T r4 [19,46,200056] 60 vP (before zA [1,1,1,1,1,1,1,0,1]) ⟨aN 0 [bE c 64 64,bE d 64 64],[],0⟩=
  let c34 : AV := tuple []; let c31 : AV := int i64 (0 : Int); let c30 : Rat := (↑(1 : Int) : Rat); let c28 : Prop := (0 : Int) ≤ (0 : Int); let c25 : Nat := (aU (bE c 64 64)).size; let c24 : Nat := (aU (bE d 64 64)).size; let c23 : Nat := nat_lit 188415 + 1; let c22 : Prop := 1 ≤ 1; let c21 : Int := (↑d.n : Int); let c19 : Int := d.p + (1 : Int); let c16 : Cu := Cu.mk c.p c.n (fun i ↦ aT (rat (c.k i) 64)) c.m fun i ↦ dP (bw (c.f i) 64); let c15 : AV := ptr 8192 0 3 0 []; let c14 : Int := (↑c.m : Int) + (↑d.m : Int); let c12 : Int := (↑c.n : Int) - (1 : Int); let c11 : Int := (↑c.m : Int) - (1 : Int); let c8 : Int := (2 : Int) ^ 63; let c7 : Nat := Int.toNat (0 : Int); let c6 : Nat := Max.max 1 (br (Int.natAbs (1 : Int))); let c2 : Prop := 0 < 1; let c33 : Nat := c12.toNat - c7; let c29 : Prop := 1 ≤ c6; let c27 : Int := c14 - (1 : Int); let c26 : V3 := (d.f c7).n; let c20 : V3 := (c.f c11.toNat).n; let c18 : AV := ptr 0 0 c25 0 []; let c17 : AV := ptr 4096 0 c24 0 []; let c13 : AV := agg [c31, nil, nil]; let c10 : AV := aU (fy [EF c16 c23 (c23 + 1)]); let c5 : Nat × ah := ((0 : Nat), ah.mk false true c25 1 fun x ↦ agg [int i64 c.p, aj 3 c.n fun i ↦ rat (c.k i) 64, aj 12 c.m fun i ↦ agg [agg [rat (c.f i).n.x 64, rat (c.f i).n.y 64, rat (c.f i).n.z 64], rat (c.f i).d 64]]); let c4 : Nat × ah := ((4096 : Nat), ah.mk false true c24 1 fun x ↦ agg [int i64 d.p, aj 3 d.n fun i ↦ rat (d.k i) 64, aj 12 d.m fun i ↦ agg [agg [rat (d.f i).n.x 64, rat (d.f i).n.y 64, rat (d.f i).n.z 64], rat (d.f i).d 64]]); let c9 : List AV := [c18, c17, c34, c34, c34, c34, c34]; let c3 : Int := (↑c33 : Int) - (1 : Int); let c1 : List (Nat × ah) := [c4, c5, ((8192 : Nat), ah.mk false true 3 1 fun j ↦ if (j == 0) = true then aU (agg c13.kids) else c13)]; let c32 : Nat := c3.toNat + ((0 : Nat) + c7); some (ag [c2, c2] (fork (c.p != d.p) (ag [c2] (leaf ret (c15 :: int i64 (1 : Int) :: c9, c1))) (ag [c2, bP (fun i ↦ rat (c.k i) 64) c.n sJ, eM (fun i ↦ bw (c.f i) 64) c.m sJ, dY c16, c2, bP (fun i ↦ rat (d.k i) 64) d.n sJ, eM (fun i ↦ bw (d.f i) 64) d.m sJ, dY (Cu.mk d.p d.n (fun i ↦ aT (rat (d.k i) 64)) d.m fun i ↦ dP (bw (d.f i) 64)), c2, c2, -c8 ≤ c11 ∧ c11 < c8, (0 : Int) ≤ c11 ∧ c11.toNat < c.m, c2, c28 ∧ c7 < d.m] (fork (bif bif !true then true else !true then true else !bif !decide (c20.x = c26.x) then false else bif !decide (c20.y = c26.y) then false else bif !decide (c20.z = c26.z) then false else true) (ag [c2] (leaf ret (c15 :: int i64 (7 : Int) :: c9, c1))) (ag [c2, c2, -c8 ≤ c14 ∧ c14 < c8, -c8 ≤ c27 ∧ c27 < c8] (ag [decide (c27 > (40 : Int)) = false] (ag [c2, c2, bP (fun i ↦ rat (c.k i) 64) c.n 64, eM (fun i ↦ bw (c.f i) 64) c.m 64, Max.max c6 1 ≤ 64, c29, c29, c29, c29, c6 ≤ 1, c22, c22, c6 ≤ 1, c22, c22, c.n < 2 ^ 30, c.m < 2 ^ 30, c2] (ag [c2, c2, -c8 ≤ c12 ∧ c12 < c8, c28 ∧ (0 : Int) ≤ c12 ∧ c12 ≤ c12 ∧ c12 ≤ (↑c.n : Int), c2] (ag [c2, c2, -c8 ≤ c3 ∧ c3 < c8, (0 : Int) ≤ c3 ∧ c3.toNat < c33, c32 < c.n, c2, c28 ∧ c7 < d.n, (100 : Nat) < 2 ^ 42, (64 : Nat) < 2 ^ 42, c2] (ag [c2, c2, -c8 ≤ c19 ∧ c19 < c8, (0 : Int) ≤ c19 ∧ c19 ≤ c21 ∧ c21 ≤ c21 ∧ c21 ≤ c21] (leaf normal ([c15, c31, c18, c17, ptr 192512 0 3 0 [], ptr 290816 0 3 0 [], aj 3 (c21.toNat - c19.toNat) fun i ↦ rat (d.k (i + c19.toNat)) 64, int i64 (↑(c21.toNat - c19.toNat) : Int), c31], [((188417 : Nat), ah.mk true true 12 c.m fun j ↦ agg [agg [rat (eu (V3.mk c30 0 0) (V3.mk (aT (rat (c.f j).n.x 64)) (aT (rat (c.f j).n.y 64)) (aT (rat (c.f j).n.z 64))) 0) 1000, rat (eu (V3.mk 0 c30 0) (V3.mk (aT (rat (c.f j).n.x 64)) (aT (rat (c.f j).n.y 64)) (aT (rat (c.f j).n.z 64))) 0) 1000, rat (eu (V3.mk 0 0 c30) (V3.mk (aT (rat (c.f j).n.x 64)) (aT (rat (c.f j).n.y 64)) (aT (rat (c.f j).n.z 64))) 0) 1000], rat (aT (rat (c.f j).d 64)) 1000]), ((188416 : Nat), ah.mk true true 3 c.n fun i ↦ rat (aT (rat (c.k i) 64)) 100), ((290816 : Nat), ah.mk false true 3 1 fun j ↦ if (j == 0) = true then aU (tN (aT (rat (c.k c32) 64), (100 : Nat)) (d.k c7, (64 : Nat))) else rat 0 1), ((192512 : Nat), ah.mk false true 3 1 fun j ↦ if (j == 0) = true then agg ((if ((0 : Nat) == 0) = true then c10 else c13).kids.set 1 (aU (own c23 3 ((0 : Nat) + c7) c33))) else if (j == 0) = true then c10 else c13), c4, c5, ((8192 : Nat), ah.mk false true 3 1 fun x ↦ c13)])))))))))))) := by kernel_rfl
theorem aiX {c d:Cu} {u:Rat} {f:Nat→Rat} {N l i:Nat}:aK T r4 [90] 60 vP [part zA [1,1,1,1,1,1,1,0,1,0,0]] ⟨aB vP (Fj c d i),GK c d u f N l,7⟩=
  let c15:AV:=int i64 (0:Int);let c14:AV:=ptr 2 0 3 0 [];let c13:AV:=ptr 3 0 3 0 [];let c12:AV:=ptr 1 0 3 0 [];let c11:AV:=ptr 0 0 3 0 [];let c10:AV:=ptr 4 0 3 0 [];let c8:Int:=(↑i:Int);let c6:Nat×ah:=((4:Nat),ah.mk false true 3 1 fun x↦rat u 200);let c5:Prop:=0<1;let c4:Nat:=d.p.toNat+1;let c3:AV:=agg [int i64 c.p,own 5 3 0 l,own 6 12 0 c.m];let c2:Nat×ah:=((6:Nat),ah.mk true true 12 c.m fun j↦agg [agg [rat (c.f j).n.x 1000,rat (c.f j).n.y 1000,rat (c.f j).n.z 1000],rat (c.f j).d 1000]);let c16:Int:=c8+(1:Int);let c9:Int:=(↑(d.n-c4):Int);let c7:AV:=aj 3 (d.n-c4) fun i↦rat (d.k (i+c4)) 64;let c1:List (Nat×ah):=[((2:Nat),ah.mk false true 3 1 fun x↦agg [int i64 d.p,aj 3 d.n fun i↦rat (d.k i) 64,aj 12 d.m fun i↦agg [agg [rat (d.f i).n.x 64,rat (d.f i).n.y 64,rat (d.f i).n.z 64],rat (d.f i).d 64]]),((1:Nat),ah.mk false true 3 1 fun x↦agg [int i64 c.p,aj 3 c.n fun i↦rat (c.k i) 64,aj 12 c.m fun i↦agg [agg [rat (c.f i).n.x 64,rat (c.f i).n.y 64,rat (c.f i).n.z 64],rat (c.f i).d 64]]),((0:Nat),ah.mk false true 3 1 fun x↦agg [c15,nil,nil])];some (fork (decide (c8<c9)) (ag [(0:Int)≤c8∧c8.toNat<d.n-c4,c5] (ag [c5,c5,c5,(64:Nat)<2^42,(200:Nat)<2^42,(1:Nat)*3≤2^24,(l+1)*((56:Nat)+1)*2≤2^47,c5] (ag [-(2:Int)^63≤c16∧c16<(2:Int)^63] (leaf normal ([c11,c15,c12,c14,c13,c10,c7,int i64 c9,int i64 c16],c2::((45063:Nat),ah.mk true true 3 (l+1) fun i↦if i<l then rat (f i) 400 else nth [rat (d.k (c8.toNat+c4)+u) ((64:Nat)+200+1)] (rat 0 1) (i-l+0))::c6::((3:Nat),ah.mk false true 3 1 fun j↦if(j==0)=true then agg (c3.kids.set 1 (aU (own (nat_lit 45062+1) 3 0 (l+1))))else c3)::c1))))) (leaf (exit 0) ([c11,c15,c12,c14,c13,c10,c7,int i64 c9,int i64 c8],c2::((5:Nat),ah.mk true true 3 N fun i↦rat (f i) 400)::c6::((3:Nat),ah.mk false true 3 1 fun x↦c3)::c1))):=by kernel_rfl
theorem aaz {c d:Cu} {u:Rat} {f:Nat→Rat} {l i:Nat}:aK T r4 [] 60 v5 (before qE [1,0,1]) ⟨aB vP (Fj c d i),GK c d u f l l,7⟩=
  let c6:AV:=int i64 (0:Int);let c5:Prop:=64<2^42;let c4:Int:=(↑d.m:Int);let c3:Prop:=0<1;let c2:Nat:=Int.toNat (1:Int);let c1:Int:=(↑c.m:Int)-(1:Int);some (ag [c3,c3,-(2:Int)^63≤c1∧c1<(2:Int)^63,(0:Int)≤c1∧c1.toNat<c.m,c3,(0:Int)≤(0:Int)∧Int.toNat (0:Int)<d.m,c5,c5,c3] (ag [c3,(0:Int)≤(1:Int)∧(1:Int)≤c4∧c4≤c4∧c4≤c4] (leaf normal ([ptr 0 0 3 0 [],c6,ptr 1 0 3 0 [],ptr 2 0 3 0 [],ptr 3 0 3 0 [],ptr 73735 0 3 0 [],aj 12 (c4.toNat-c2) fun i↦agg [agg [rat (d.f (i+c2)).n.x 64,rat (d.f (i+c2)).n.y 64,rat (d.f (i+c2)).n.z 64],rat (d.f (i+c2)).d 64],int i64 (↑(c4.toNat-c2):Int),c6],[((6:Nat),ah.mk true true 12 c.m fun j↦agg [agg [rat (c.f j).n.x 1000,rat (c.f j).n.y 1000,rat (c.f j).n.z 1000],rat (c.f j).d 1000]),((5:Nat),ah.mk true true 3 l fun i↦rat (f i) 400),((73735:Nat),ah.mk false true 3 1 fun j↦if(j==0)=true then aU (rA ((c.f c1.toNat).d/(d.f (Int.toNat (0:Int))).d) ((64:Nat)+64))else rat 0 1),((3:Nat),ah.mk false true 3 1 fun x↦agg [int i64 c.p,own 5 3 0 l,own 6 12 0 c.m]),((2:Nat),ah.mk false true 3 1 fun x↦agg [int i64 d.p,aj 3 d.n fun i↦rat (d.k i) 64,aj 12 d.m fun i↦agg [agg [rat (d.f i).n.x 64,rat (d.f i).n.y 64,rat (d.f i).n.z 64],rat (d.f i).d 64]]),((1:Nat),ah.mk false true 3 1 fun x↦agg [int i64 c.p,aj 3 c.n fun i↦rat (c.k i) 64,aj 12 c.m fun i↦agg [agg [rat (c.f i).n.x 64,rat (c.f i).n.y 64,rat (c.f i).n.z 64],rat (c.f i).d 64]]),((0:Nat),ah.mk false true 3 1 fun x↦agg [c6,nil,nil])])))):=by kernel_rfl
theorem Wv {c d:Cu} {u:Rat} {f:Nat→Rat} {g:Nat→Pl} {n m i:Nat}:aK T r4 [125] 60 v5 [part qE [1,0,1,0,0]] ⟨aB v5 (Hp c d i),E1 c d u f g n m,7⟩=
  let c21:Nat:=d.m-1;let c20:AV:=int i64 (0:Int);let c18:AV:=ptr 2 0 3 0 [];let c17:AV:=ptr 3 0 3 0 [];let c16:AV:=ptr 1 0 3 0 [];let c15:AV:=ptr 0 0 3 0 [];let c14:AV:=ptr 4 0 3 0 [];let c12:Int:=(↑i:Int);let c11:AV:=rat 0 1;let c10:Nat×ah:=((5:Nat),ah.mk true true 3 n fun i↦rat (f i) 400);let c9:Nat:=64+1+1;let c8:Nat×ah:=((4:Nat),ah.mk false true 3 1 fun x↦rat u 200);let c5:Nat:=2^42;let c4:AV:=agg [int i64 c.p,own 5 3 0 n,own 6 12 0 m];let c3:Prop:=0<1;let c22:Int:=c12+(1:Int);let c19:Prop:=1<c5;let c13:Prop:=64<c5;let c7:Int:=(↑c21:Int);let c6:Pl:=d.f (c12.toNat+1);let c2:AV:=aj 12 c21 fun i↦agg [agg [rat (d.f (i+1)).n.x 64,rat (d.f (i+1)).n.y 64,rat (d.f (i+1)).n.z 64],rat (d.f (i+1)).d 64];let c1:List (Nat×ah):=[((2:Nat),ah.mk false true 3 1 fun x↦agg [int i64 d.p,aj 3 d.n fun i↦rat (d.k i) 64,aj 12 d.m fun i↦agg [agg [rat (d.f i).n.x 64,rat (d.f i).n.y 64,rat (d.f i).n.z 64],rat (d.f i).d 64]]),((1:Nat),ah.mk false true 3 1 fun x↦agg [int i64 c.p,aj 3 c.n fun i↦rat (c.k i) 64,aj 12 c.m fun i↦agg [agg [rat (c.f i).n.x 64,rat (c.f i).n.y 64,rat (c.f i).n.z 64],rat (c.f i).d 64]]),((0:Nat),ah.mk false true 3 1 fun x↦agg [c20,nil,nil])];some (fork (decide (c12<c7)) (ag [(0:Int)≤c12∧c12.toNat<c21,c3] (ag [c3,c13,c19,c13,c19,c13,c19,c3,c3,c13,c19,c3,c3] (ag [c3,c3,(200:Nat)<c5,c13,c3] (ag [c3,c3,(1:Nat)*12≤2^24,(m+1)*((224:Nat)+1)*2≤2^47,c3] (ag [-(2:Int)^63≤c22∧c22<(2:Int)^63] (leaf normal ([c15,c20,c16,c18,c17,c14,c2,int i64 c7,int i64 c22],((77831:Nat),ah.mk true true 12 (m+1) fun i↦if i<m then bw (g i) 1000 else nth [agg [agg [rat (c6.n.x+0) c9,rat (c6.n.y+0) c9,rat (c6.n.z+0) c9],rat (u*c6.d) ((200:Nat)+64)]] (agg [agg [c11,c11,c11],c11]) (i-m+0))::c10::c8::((3:Nat),ah.mk false true 3 1 fun j↦if(j==0)=true then agg (c4.kids.set 2 (aU (own (nat_lit 77830+1) 12 0 (m+1))))else c4)::c1))))))) (leaf (exit 2) ([c15,c20,c16,c18,c17,c14,c2,int i64 c7,int i64 c12],((6:Nat),ah.mk true true 12 m fun j↦agg [agg [rat (g j).n.x 1000,rat (g j).n.y 1000,rat (g j).n.z 1000],rat (g j).d 1000])::c10::c8::((3:Nat),ah.mk false true 3 1 fun x↦c4)::c1))):=by kernel_rfl
theorem agk {c d:Cu} {u:Rat} {f:Nat→Rat} {g:Nat→Pl} {n m i:Nat}:bW T r4 [] 60 oU [part qE [1,1]] ⟨aB v5 (Hp c d i),E1 c d u f g n m,7⟩=
  let c1:Prop:=0<1;some (ag [c1,c1] (ag [c1] (leaf ret [agg [int i64 c.p,aj 3 n fun i↦rat (f (i+0)) 400,aj 12 m fun i↦agg [agg [rat (g (i+0)).n.x 1000,rat (g (i+0)).n.y 1000,rat (g (i+0)).n.z 1000],rat (g (i+0)).d 1000]],int i64 (0:Int)]))):=by kernel_rfl
theorem adS {e:Int} {c d:Cu}:jl T oU .ret ⟨aB [4,5,2,3] [.ptr 8192 0 3 0 [],.int .i64 e,.ptr 0 0 3 0 [],.ptr 4096 0 3 0 []],[(4096,jk d),(0,jk c),(8192,⟨false,true,3,1,fun j=>if(j==0)=true then aU (.agg (AV.kids (.agg [.int .i64 0,.nil,.nil])))else .agg [.int .i64 0,.nil,.nil]⟩)],8193⟩=
  some (ag [(0:Nat)<1] (leaf ret [agg [int i64 (0:Int),nil,nil],int i64 e])):=by kernel_rfl
theorem ab9:aX P J4:=aJ (gj hT (iz A3) hm (aP aa8 (by kernel_rfl) (by kernel_rfl) (by kernel_rfl)) _ _) bn
theorem EA:aX P r4:=cC (aJ Gs (aJ (aeS (by decide) (by decide) (by decide) (by decide)) (aJ (gZ fun _ _ K hn=>vt hn.1 hn.2 K) (mq MY (mq ab9 (mq PW fC))))))
theorem VK {x y z x' y' z':Rat}:(bif bif !true then true else !true then true else !bif !decide (x=x')then false else bif !decide (y=y')then false else bif !decide (z=z')then false else true)=!decide (x=x'∧y=y'∧z=z'):=by
 by_cases h1:x=x'<;>by_cases h2:y=y'<;>by_cases h3:z=z'<;>simp[h1,h2,h3]
theorem Jt {c d:Cu} (h:fm c d≠0):(gB c d).p=0∧(gB c d).n=0∧(gB c d).m=0:=by unfold gB;rw[if_neg h];exact⟨rfl,rfl,rfl⟩
theorem KF {c d:Cu} (h:fm c d=0):gB c d=⟨c.p,c.n-1+(d.n-(d.p.toNat+1)),kj c d,c.m+(d.m-1),mY c d⟩:=if_pos h
theorem NK {c d:Cu} (h:c.p≠d.p):fm c d=1:=if_pos h
theorem CV {c d:Cu} (h:c.p=d.p):fm c d=if(c.f (c.m-1)).n.x=(d.f 0).n.x∧(c.f (c.m-1)).n.y=(d.f 0).n.y∧(c.f (c.m-1)).n.z=(d.f 0).n.z then 0 else 7:=if_neg (fun h2=>h2 h)
theorem IE {c d:Cu} {q:Nat} (h:q<c.n-1):c.k q=kj c d q:=(if_pos h).symm
theorem Jz {c d:Cu} {i:Nat}:d.k (i+(d.p.toNat+1))+(c.k (c.n-1)-d.k 0)=kj c d (c.n-1+i):=by
 unfold kj;rw[if_neg (by omega),show c.n-1+i-(c.n-1)=i by omega]
theorem Ju {c d:Cu} {q:Nat} (h:q<c.m):c.f q=mY c d q:=(if_pos h).symm
theorem Ie {c d:Cu} {i:Nat}:(⟨(d.f (i+1)).n,qy c d*(d.f (i+1)).d⟩:Pl)=mY c d (c.m+i):=by
 unfold mY;rw[if_neg (by omega),show c.m+i-c.m+1=i+1 by omega]
theorem tr {rl:List (Nat×Nat)} {p:Int} {a b n n' m m':Nat} (h5:aS rl 5=some a) (h6:aS rl 6=some b) (hn:n=n') (hm2:m=m'):fc rl (.agg [.int .i64 p,.own a 3 0 n,.own b 12 0 m]) (.agg [.int .i64 p,.own 5 3 0 n',.own 6 12 0 m']):=
 gv ⟨⟨rfl,aG rfl⟩,⟨rfl,bY h5 rfl hn⟩,⟨rfl,bY h6 rfl hm2⟩,trivial⟩
set_option maxHeartbeats 1000000 in
theorem abC {c d:Cu} (hc:dY c) (hd:dY d) (hm40:c.m+d.m≤41) (K:Nat):aA P z6 K [bE c 64 64,bE d 64 64] [] (aI (.tuple [bE (gB c d) 1000 1000,.int .i64 (fm c d)]) []):=by
 refine gz (r:=aI (.tuple [bE (gB c d) 1000 1000,.int .i64 (fm c d)]) []) hT IM rfl (of_decide_eq_true (by kernel_rfl)) rfl (fun _ cx h00=>?_) K []
 have hk:=nW h00
 obtain⟨c1,c2,c3,c4,c5⟩:=id hc
 obtain⟨d1,d2,d3,d4,d5⟩:=id hd
 have cl:=c1.len
 have dl:=d1.len
 obtain⟨u,hu⟩:∃u,u=c.k (c.n-1)-d.k 0:=⟨_,rfl⟩
 have hr:∀e:Int,fm c d=e→e≠0→qO T oU [4,5,2,3] (.tuple [bE (gB c d) 1000 1000,.int .i64 (fm c d)]) ([.ptr 8192 0 3 0 [],.int .i64 e,.ptr 0 0 3 0 [],.ptr 4096 0 3 0 [],.tuple [],.tuple [],.tuple [],.tuple [],.tuple []],
   [(4096,jk d),(0,jk c),(8192,⟨false,true,3,1,fun j=>if(j==0)=true then aU (.agg (AV.kids (.agg [.int .i64 0,.nil,.nil])))else .agg [.int .i64 0,.nil,.nil]⟩)]):=fun e he h0=>by
  obtain⟨e1,e2,e3⟩:=Jt (c:=c) (d:=d) (by rw[he];exact h0)
  refine⟨[_,_,_,_],_,8193,_,rfl,rfl,rfl,adS,rfl,⟨⟨by omega,fun i _=>rfl⟩,⟨by omega,fun i _=>rfl⟩,⟨by omega,fun i _=>AN rfl rfl⟩,trivial⟩,Nat.zero_lt_one,BS e1 e2 e3,bt he.symm,trivial⟩
 refine aq.iM hT EA hm (x:=zA) [1,1,1,1,1,1,1,0,1] (i:=0) (y:=part zA [1,1,1,1,1,1,1,0,1,0,0]) (z:=qE) (by kernel_rfl) (by kernel_rfl) (by kernel_rfl) IM.dst hk (f1:=[19,46,200056]) (f2:=[90]) 60 vP 7
  (fun i:Nat=>Fj c d i) (fun i=>GK c d u (H9 c d i) (Pd c i) (c.n-1+i)) (fun i=>i≤d.n-(d.p.toNat+1)∧fm c d=0) (fun i=>i=d.n-(d.p.toNat+1)∧fm c d=0) (fun i=>d.n-(d.p.toNat+1)-i) (qO T oU [4,5,2,3] (.tuple [bE (gB c d) 1000 1000,.int .i64 (fm c d)]))
  ⟨_,ai1,?_⟩ (fun i hi=>⟨_,aiX,?_⟩) (fun i hi=>?_) (fun v s' hv hs'=>hv.fin (L1:=[6,7,87,88,89]) hk hs')
 ·have em:((c.m:Int)-1).toNat=c.m-1:=by omega
  have ec:((c.n:Int)-1).toNat=c.n-1:=by omega
  have e2:(((c.n-1:Nat):Int)-1).toNat=c.n-2:=by omega
  have ep:(d.p+1).toNat=d.p.toNat+1:=by omega
  simp only[aa.all,ax,VK,bne_iff_ne,ne_eq,bne_eq_false_iff_eq,decide_eq_true_eq,decide_eq_false_iff_not,Bool.not_eq_true',Bool.not_eq_false',Int.toNat_zero,Nat.add_zero,Nat.sub_zero,Nat.zero_add,em,ec,e2,ep,Int.toNat_natCast]
  rw[tu c 64 64,tu d 64 64]
  refine⟨by omega,fun hp=>⟨by omega,hr 1 (NK hp) (by decide)⟩,fun hp=>⟨⟨by omega,cU (by decide),iB (by decide),hc,by omega,cU (by decide),iB (by decide),hd,by omega,by omega,by omega,by omega,by omega,by omega⟩,fun hs=>⟨by omega,hr 7 (by rw[CV hp,if_neg hs]) (by decide)⟩,fun hs=>?_⟩⟩
  have hE:fm c d=0:=by rw[CV hp,if_pos hs]
  refine⟨by omega,by omega,?_,by omega,by omega,by omega,0,⟨Nat.zero_le _,hE⟩,[(0,8192),(1,0),(2,4096),(3,192512),(4,290816),(5,188416),(6,188417)],rfl,rfl,rfl,aW rfl rfl rfl (fun q hq=>.inr ⟨rfl,bp rfl (by decide)⟩) (aW rfl rfl rfl (fun q hq=>.inr ⟨rfl,bQ ⟨bQ ⟨bp Iz (Nat.le_refl _),bp Lu (Nat.le_refl _),bp OJ (Nat.le_refl _),trivial⟩,.refl _,trivial⟩⟩)
   (aF rfl rfl (.inr ⟨rfl,bp (show c.k (c.n-2)-d.k 0=u by rw[hu,c1.last (c.n-2) (by omega) (by omega)]) (show 100+64+1≤200 by decide)⟩) (aF rfl rfl (tr rfl rfl rfl rfl) (aF rfl rfl (aD rfl rfl) (aF rfl rfl (aD rfl rfl) (aF rfl rfl (aD rfl rfl) trivial))))))⟩
  (repeat' with_reducible refine And.intro ?_ ?_)
  all_goals first|omega|decide|exact cU (by decide)|exact iB (by decide)
 ·simp only[aa.all,ax,decide_eq_true_eq,decide_eq_false_iff_not,Int.toNat_natCast,Nat.add_zero]
  refine⟨fun h1=>⟨by omega,by omega,by omega,i+1,⟨by omega,hi.2⟩,by dsimp only;omega,[(0,0),(1,1),(2,2),(3,3),(4,4),(5,45063),(6,6)],rfl,rfl,rfl,aW rfl rfl rfl (fun q hq=>lZ (y:=kj c d) ?_ ?_ (Nat.le_refl _) (by decide) hq) (aW rfl rfl rfl (fun _ _=>aD rfl rfl) (aF rfl rfl (aD rfl rfl) (aF rfl rfl (tr rfl rfl rfl rfl) (aF rfl rfl (aD rfl rfl) (aF rfl rfl (aD rfl rfl) (aF rfl rfl (aD rfl rfl) trivial))))))⟩,
   fun h1=>⟨rfl,i,⟨by omega,hi.2⟩,[(0,0),(1,1),(2,2),(3,3),(4,4),(5,5),(6,6)],rfl,rfl,rfl,aW rfl rfl rfl (fun _ _=>aD rfl rfl) (aW rfl rfl rfl (fun _ _=>aD rfl rfl) (aF rfl rfl (aD rfl rfl) (aF rfl rfl (tr rfl rfl rfl rfl) (aF rfl rfl (aD rfl rfl) (aF rfl rfl (aD rfl rfl) (aF rfl rfl (aD rfl rfl) trivial))))))⟩⟩
  ·intro r hr2
   cases i with
   |zero=>exact IE (by omega)
   |succ i=>rfl
  ·rw[hu];exact Jz
 ·obtain⟨rfl,hE⟩:=hi
  obtain⟨i,hi⟩:∃i,d.n-(d.p.toNat+1)=i+1:=⟨d.n-(d.p.toNat+1)-1,by omega⟩
  have e1:H9 c d (d.n-(d.p.toNat+1))=kj c d:=by rw[hi];rfl
  have e2:Pd c (d.n-(d.p.toNat+1))=c.n-1+(d.n-(d.p.toNat+1)):=by rw[hi];rfl
  have em:((c.m:Int)-1).toNat=c.m-1:=by omega
  rw[e1,e2]
  refine aq.iM hT EA hm (x:=qE) [1,0,1] (i:=2) (y:=part qE [1,0,1,0,0]) (z:=part qE [1,1]) (by kernel_rfl) (by kernel_rfl) (by kernel_rfl) (by kernel_rfl) hk (f1:=[]) (f2:=[125]) 60 v5 7
   (fun j:Nat=>Hp c d j) (fun j=>E1 c d (qy c d) (kj c d) (mY c d) (c.n-1+(d.n-(d.p.toNat+1))) (c.m+j)) (fun j=>j≤d.m-1) (fun j=>j=d.m-1) (fun j=>d.m-1-j) (fun _=>False) ⟨_,aaz,?_⟩ (fun j hj=>⟨_,Wv,?_⟩) (fun j hj=>?_) (fun _ _ h=>h.elim)
  ·simp only[aa.all,ax,em,Int.toNat_natCast,Int.toNat_zero]
   exact⟨by omega,by omega,0,Nat.zero_le _,[(0,0),(1,1),(2,2),(3,3),(4,73735),(5,5),(6,6)],rfl,rfl,rfl,aW rfl rfl rfl (fun _ _=>aD rfl rfl) (aW rfl rfl rfl (fun q hq=>aD rfl (by rw[←Ju (d:=d) (show q<c.m from hq)])) (aF rfl rfl (.inr ⟨rfl,bp (r:=qy c d) rfl (by decide)⟩) (aF rfl rfl (tr rfl rfl rfl rfl) (aF rfl rfl (aD rfl rfl) (aF rfl rfl (aD rfl rfl) (aF rfl rfl (aD rfl rfl) trivial))))))⟩
  ·simp only[aa.all,ax,decide_eq_true_eq,decide_eq_false_iff_not,Int.toNat_natCast,Nat.add_zero]
   refine⟨fun h1=>⟨by omega,by omega,by omega,by omega,by omega,j+1,by omega,by dsimp only;omega,[(0,0),(1,1),(2,2),(3,3),(4,4),(5,5),(6,77831)],rfl,rfl,rfl,aW rfl rfl rfl (fun _ _=>aD rfl rfl) (aW rfl rfl rfl (fun q hq=>oB (y:=mY c d) (fun _ _=>rfl) (s':=1000) ?_ rfl (Nat.le_refl _) (Nat.le_refl _) hq) (aF rfl rfl (aD rfl rfl) (aF rfl rfl (tr rfl rfl rfl rfl) (aF rfl rfl (aD rfl rfl) (aF rfl rfl (aD rfl rfl) (aF rfl rfl (aD rfl rfl) trivial))))))⟩,
    fun h1=>⟨rfl,j,by omega,[(0,0),(1,1),(2,2),(3,3),(4,4),(5,5),(6,6)],rfl,rfl,rfl,aW rfl rfl rfl (fun _ _=>aD rfl rfl) (aW rfl rfl rfl (fun _ _=>aD rfl rfl) (aF rfl rfl (aD rfl rfl) (aF rfl rfl (tr rfl rfl rfl rfl) (aF rfl rfl (aD rfl rfl) (aF rfl rfl (aD rfl rfl) (aF rfl rfl (aD rfl rfl) trivial))))))⟩⟩
   rw[←Ie]
   exact bQ ⟨bQ ⟨bp (Rat.add_zero _) (by decide),bp (Rat.add_zero _) (by decide),bp (Rat.add_zero _) (by decide),trivial⟩,bp rfl (by decide),trivial⟩
  ·subst hj
   refine aq.ni ((aE.fin hT EA hm 60 agk (by kernel_rfl) ?_).mono fun _ _ h=>.inl h)
   simp only[aa.all,ax,Nat.add_zero]
   exact⟨by omega,by omega,by rw[KF hE];exact bQ ⟨.refl _,jh fun q _=>bp rfl (by decide),.refl _,trivial⟩,bt hE.symm,trivial⟩
def Bg:Spec:=cJ (kC (gx 64 64) (kC (gx 64 64) kN)) (fun a=>.tuple [bE (gB a.1 a.2.1) 1000 1000,.int .i64 (fm a.1 a.2.1)]) fun a=>[dY a.1,dY a.2.1,a.1.m+a.2.1.m≤41]
theorem afU:∀K args pre q,Bg K args pre=some q→aA P z6 K args pre q:=cz fun⟨c,d,_⟩ K hn=>abC hn.1 hn.2.1 hn.2.2 K
end Go.Am.B

/- ref10.Join. -/
namespace Go.Am.B
open Go Go.Am.N AV aa ak IntKind
theorem ahZ:aO P xE rN (au rN):=aP JW (by kernel_rfl) (by kernel_rfl) (by kernel_rfl)
def wN (u v:V3):Bool:=decide (u.x=v.x∧u.y=v.y∧u.z=v.z)
noncomputable def JQ:aR:=[(K5,fW T [nG] [] 60 Ny),(xE,gI kV kV (fun a b=>.bool (wN a.1 b.1)) fun a b=>[a.2<2^38,b.2<2^38])]
noncomputable def tX:aR:=nG::(JQ++oY)
noncomputable abbrev xJ:Code:=au oL
noncomputable abbrev pN:Code:=part xJ [1,1,1,1,1,1,1,1,1]
abbrev xu:List Nat:=[4,5,2,3,11,12,13,14]
abbrev qH (i:Int):List AV:=[.ptr 0 0 3 0 [],.int .i64 0,.ptr 1 0 3 0 [],.ptr 2 0 3 0 [],.ptr 3 0 3 0 [],.ptr 4 0 3 0 [],.ptr 5 0 3 0 [],.int .i64 i]
abbrev s6 (c d:Cu) (u v:Rat) (f:Nat→Rat) (g:Nat→Pl) (n m:Nat):aC:=[(6,jJ 400 n f),(7,lC m g 400),(5,E7 c.p 6 7 n m),(4,tP v 200),(3,tP u 200),(2,jk d),(1,jk c),(0,Gq)]
abbrev uD:List Nat:=[4,5,2,3,11,12,13,15]
theorem Rx {u v:V3} {n m:Nat}:bC T Ct [10,17] 60 rN (au rN) ⟨aN 0 [vA u n,vA v m],[],0⟩=
  let c9:Int:=(↑(3:Nat):Int);let c8:AV:=AV.bool (bif true then decide (u.z=v.z)else false);let c7:Bool:=decide (u.x=v.x);let c6:Bool:=bif true then decide (u.y=v.y)else false;let c3:Prop:=0<1;let c2:Nat:=2^41;let c5:Prop:=(0:Int)≤(2:Int)∧(2:Int)<c9;let c4:Prop:=(0:Int)≤(1:Int)∧(1:Int)<c9;let c1:Prop:=(0:Int)≤(0:Int)∧(0:Int)<c9;let c10:List Prop:=[c5,c3,c5,c3,n<c2,m<c2];some (fork c7 (fork c6 (ag (c1::c3::c1::c3::(n<c2)::(m<c2)::(c7=true)::c4::c3::c4::c3::(n<c2)::(m<c2)::(c6=true)::c10) (leaf ret [c8])) (ag [c1,c3,c1,c3,n<c2,m<c2,c7=true,c4,c3,c4,c3,n<c2,m<c2,c6=false] (leaf ret [AV.bool false]))) (fork false (ag (c1::c3::c1::c3::(n<c2)::(m<c2)::(c7=false)::(false=true)::c10) (leaf ret [c8])) (ag [c1,c3,c1,c3,n<c2,m<c2,c7=false,false=false] (leaf ret [AV.bool false])))):=by kernel_rfl
theorem akb {c d:Cu}:aK T tX [26,33,200039] 60 xu (before xJ [1,1,1,1,1,1,1,1,0,1]) ⟨aN 0 [bE c 64 64,bE d 64 64],[],0⟩=
  let c28 : AV := rat 0 1; let c27 : Nat := 0 + c.m; let c26 : Int := d.p + (1 : Int); let c23 : Prop := 64 < 2 ^ 38; let c21 : Nat := (aU (bE d 64 64)).size; let c20 : Nat := (aU (bE c 64 64)).size; let c18 : Prop := 64 ≤ 64; let c17 : Int := (↑d.m : Int) - (1 : Int); let c16 : Prop := (0 : Int) ≤ (0 : Int); let c13 : AV := ptr 8192 0 3 0 []; let c12 : Prop := 64 < 2 ^ 41; let c11 : Int := (↑c.m : Int) + (↑d.m : Int); let c10 : AV := agg [int i64 (0 : Int), nil, nil]; let c9 : Nat := Int.toNat (0 : Int); let c7 : Int := (↑c.n : Int) - (1 : Int); let c6 : Int := (↑c.m : Int) - (1 : Int); let c5 : Int := (2 : Int) ^ 63; let c2 : Prop := 0 < 1; let c25 : Prop := (0 : Int) ≤ c6 ∧ c6.toNat < c.m; let c24 : Pl := c.f c6.toNat; let c22 : Int := c11 - (1 : Int); let c19 : Nat := 0 + (c7.toNat - c9); let c15 : AV := ptr 0 0 c20 0 []; let c14 : AV := ptr 4096 0 c21 0 []; let c4 : Nat × ah := ((0 : Nat), ah.mk false true c20 1 fun x ↦ agg [int i64 c.p, aj 3 c.n fun i ↦ rat (c.k i) 64, aj 12 c.m fun i ↦ agg [agg [rat (c.f i).n.x 64, rat (c.f i).n.y 64, rat (c.f i).n.z 64], rat (c.f i).d 64]]); let c3 : Nat × ah := ((4096 : Nat), ah.mk false true c21 1 fun x ↦ agg [int i64 d.p, aj 3 d.n fun i ↦ rat (d.k i) 64, aj 12 d.m fun i ↦ agg [agg [rat (d.f i).n.x 64, rat (d.f i).n.y 64, rat (d.f i).n.z 64], rat (d.f i).d 64]]); let c8 : List AV := [c15, c14, tuple [], tuple [], tuple [], tuple []]; let c1 : List (Nat × ah) := [c3, c4, ((8192 : Nat), ah.mk false true 3 1 fun j ↦ if (j == 0) = true then aU (agg c10.kids) else c10)]; some (ag [c2, c2, c16 ∧ c9 < c.m, c2, c2, -c5 ≤ c6 ∧ c6 < c5, c25, c2, c2, c2, c2, c2, c2] (ag [c2, c2, c16 ∧ c9 < d.m, c2, c2, -c5 ≤ c17 ∧ c17 < c5, (0 : Int) ≤ c17 ∧ c17.toNat < d.m, c2, c2, c2, c2, c2, c2] (ag [c2, c2] (fork (c.p != d.p) (ag [c2] (leaf ret (c13 :: int i64 (1 : Int) :: c8, c1))) (ag [c2, c2, c18, c18, c18, c18, c23, c23] (fork (!wN (V3.mk c24.n.x c24.n.y c24.n.z) (V3.mk (d.f c9).n.x (d.f c9).n.y (d.f c9).n.z)) (ag [c2] (leaf ret (c13 :: int i64 (7 : Int) :: c8, c1))) (ag [c2, c2, -c5 ≤ c11 ∧ c11 < c5, -c5 ≤ c22 ∧ c22 < c5] (ag [decide (c22 > (40 : Int)) = false] (ag [c2, -c5 ≤ c7 ∧ c7 < c5] (ag [c2, (0 : Int) ≤ c7 ∧ c7.toNat < c.n, c2, c16 ∧ c9 < d.n, c12, c12, c2] (ag [c2, c2, -c5 ≤ c6 ∧ c6 < c5, c25, c2, c16 ∧ c9 < d.m, c12, c12, c2] (ag [c2, (0 : Nat) * 3 ≤ 2 ^ 24, c2, c16 ∧ (0 : Int) ≤ c7 ∧ c7 ≤ c7 ∧ c7 ≤ (↑c.n : Int), c19 * ((56 : Nat) + 1) * 2 ≤ 2 ^ 47, (0 : Nat) * 12 ≤ 2 ^ 24, c2, c27 * ((224 : Nat) + 1) * 2 ≤ 2 ^ 47, c2] (ag [c2, -c5 ≤ c26 ∧ c26 < c5] (leaf normal ([c13, int i64 (0 : Int), c15, c14, ptr 237568 0 3 0 [], ptr 307200 0 3 0 [], ptr 368640 0 3 0 [], int i64 c26], [((360448 : Nat), ah.mk true true 12 c27 fun i ↦ agg [agg [rat (c.f (i - 0)).n.x 64, rat (c.f (i - 0)).n.y 64, rat (c.f (i - 0)).n.z 64], rat (c.f (i - 0)).d 64]), ((344064 : Nat), ah.mk true true 3 c19 fun i ↦ rat (c.k (i - 0 + c9)) 64), ((368640 : Nat), ah.mk false true 3 1 fun j ↦ if (j == 0) = true then aU (agg (((c10.kids.set 0 (aU (int i64 c.p))).set 1 (aU (own (nat_lit 344063 + 1) 3 0 c19))).set 2 (aU (own (nat_lit 360447 + 1) 12 0 c27)))) else c10), ((307200 : Nat), ah.mk false true 3 1 fun j ↦ if (j == 0) = true then aU (EY (c24.d, (64 : Nat)) ((d.f c9).d, (64 : Nat))) else c28), ((237568 : Nat), ah.mk false true 3 1 fun j ↦ if (j == 0) = true then aU (tN (c.k c7.toNat, (64 : Nat)) (d.k c9, (64 : Nat))) else c28), c3, c4, ((8192 : Nat), ah.mk false true 3 1 fun x ↦ c10)]))))))))))))))) := by kernel_rfl
theorem S5 {c d:Cu} {u v:Rat} {f:Nat→Rat} {g:Nat→Pl} {n m:Nat} {i:Int}:aK T tX [99] 60 xu [part xJ [1,1,1,1,1,1,1,1,0,1,0,0]] ⟨aB xu (qH i),s6 c d u v f g n m,8⟩=
  let c11:AV:=int i64 (0:Int);let c10:AV:=ptr 2 0 3 0 [];let c9:AV:=ptr 3 0 3 0 [];let c8:AV:=ptr 1 0 3 0 [];let c7:AV:=ptr 0 0 3 0 [];let c6:AV:=ptr 5 0 3 0 [];let c5:AV:=ptr 4 0 3 0 [];let c4:Prop:=0<1;let c3:Nat×ah:=((7:Nat),ah.mk true true 12 m fun j↦agg [agg [rat (g j).n.x 400,rat (g j).n.y 400,rat (g j).n.z 400],rat (g j).d 400]);let c2:AV:=agg [int i64 c.p,own 6 3 0 n,own 7 12 0 m];let c1:List (Nat×ah):=[((4:Nat),ah.mk false true 3 1 fun x↦rat v 200),((3:Nat),ah.mk false true 3 1 fun x↦rat u 200),((2:Nat),ah.mk false true 3 1 fun x↦agg [int i64 d.p,aj 3 d.n fun i↦rat (d.k i) 64,aj 12 d.m fun i↦agg [agg [rat (d.f i).n.x 64,rat (d.f i).n.y 64,rat (d.f i).n.z 64],rat (d.f i).d 64]]),((1:Nat),ah.mk false true 3 1 fun x↦agg [int i64 c.p,aj 3 c.n fun i↦rat (c.k i) 64,aj 12 c.m fun i↦agg [agg [rat (c.f i).n.x 64,rat (c.f i).n.y 64,rat (c.f i).n.z 64],rat (c.f i).d 64]]),((0:Nat),ah.mk false true 3 1 fun x↦agg [c11,nil,nil])];some (ag [c4] (fork (decide (i<(↑d.n:Int))) (ag [c4,c4,(0:Int)≤i∧i.toNat<d.n,c4,(64:Nat)<2^41,(200:Nat)<2^41,(1:Nat)*3≤2^24,(n+1)*((56:Nat)+1)*2≤2^47,c4] (ag [-(2:Int)^63≤i+(1:Int)∧i+(1:Int)<(2:Int)^63] (leaf normal ([c7,c11,c8,c10,c9,c5,c6,int i64 (i+(1:Int))],c3::((61448:Nat),ah.mk true true 3 (n+1) fun i_1↦if i_1<n then rat (f i_1) 400 else nth [rat (d.k i.toNat+u) ((64:Nat)+200+1)] (rat 0 1) (i_1-n+0))::((5:Nat),ah.mk false true 3 1 fun j↦if(j==0)=true then agg (c2.kids.set 1 (aU (own (nat_lit 61447+1) 3 0 (n+1))))else c2)::c1)))) (leaf (exit 1) ([c7,c11,c8,c10,c9,c5,c6,int i64 i],c3::((6:Nat),ah.mk true true 3 n fun i↦rat (f i) 400)::((5:Nat),ah.mk false true 3 1 fun x↦c2)::c1)))):=by kernel_rfl
theorem Ub {c d:Cu} {u v:Rat} {f:Nat→Rat} {g:Nat→Pl} {n m:Nat} {i:Int}:aK T tX [] 60 uD (before pN [0,1]) ⟨aB xu (qH i),s6 c d u v f g n m,8⟩=
  some (leaf normal ([ptr 0 0 3 0 [],int i64 (0:Int),ptr 1 0 3 0 [],ptr 2 0 3 0 [],ptr 3 0 3 0 [],ptr 4 0 3 0 [],ptr 5 0 3 0 [],int i64 (1:Int)],[((7:Nat),ah.mk true true 12 m fun j↦agg [agg [rat (g j).n.x 400,rat (g j).n.y 400,rat (g j).n.z 400],rat (g j).d 400]),((6:Nat),ah.mk true true 3 n fun i↦rat (f i) 400),((5:Nat),ah.mk false true 3 1 fun x↦agg [int i64 c.p,own 6 3 0 n,own 7 12 0 m]),((4:Nat),ah.mk false true 3 1 fun x↦rat v 200),((3:Nat),ah.mk false true 3 1 fun x↦rat u 200),((2:Nat),ah.mk false true 3 1 fun x↦agg [int i64 d.p,aj 3 d.n fun i↦rat (d.k i) 64,aj 12 d.m fun i↦agg [agg [rat (d.f i).n.x 64,rat (d.f i).n.y 64,rat (d.f i).n.z 64],rat (d.f i).d 64]]),((1:Nat),ah.mk false true 3 1 fun x↦agg [int i64 c.p,aj 3 c.n fun i↦rat (c.k i) 64,aj 12 c.m fun i↦agg [agg [rat (c.f i).n.x 64,rat (c.f i).n.y 64,rat (c.f i).n.z 64],rat (c.f i).d 64]]),((0:Nat),ah.mk false true 3 1 fun x↦agg [int i64 (0:Int),nil,nil])])):=by kernel_rfl
theorem ZN {c d:Cu} {u v:Rat} {f:Nat→Rat} {g:Nat→Pl} {n m:Nat} {i:Int}:aK T tX [118] 60 uD [part pN [0,1,0,0]] ⟨aB uD (qH i),s6 c d u v f g n m,8⟩=
  let c14:V3:=(d.f i.toNat).n;let c13:Prop:=(0:Int)≤i∧i.toNat<d.m;let c12:AV:=int i64 (0:Int);let c11:AV:=ptr 2 0 3 0 [];let c10:AV:=ptr 3 0 3 0 [];let c9:AV:=ptr 1 0 3 0 [];let c8:AV:=ptr 0 0 3 0 [];let c7:AV:=ptr 5 0 3 0 [];let c6:AV:=ptr 4 0 3 0 [];let c5:AV:=rat 0 1;let c4:Nat×ah:=((6:Nat),ah.mk true true 3 n fun i↦rat (f i) 400);let c3:Prop:=0<1;let c2:AV:=agg [int i64 c.p,own 6 3 0 n,own 7 12 0 m];let c1:List (Nat×ah):=[((4:Nat),ah.mk false true 3 1 fun x↦rat v 200),((3:Nat),ah.mk false true 3 1 fun x↦rat u 200),((2:Nat),ah.mk false true 3 1 fun x↦agg [int i64 d.p,aj 3 d.n fun i↦rat (d.k i) 64,aj 12 d.m fun i↦agg [agg [rat (d.f i).n.x 64,rat (d.f i).n.y 64,rat (d.f i).n.z 64],rat (d.f i).d 64]]),((1:Nat),ah.mk false true 3 1 fun x↦agg [int i64 c.p,aj 3 c.n fun i↦rat (c.k i) 64,aj 12 c.m fun i↦agg [agg [rat (c.f i).n.x 64,rat (c.f i).n.y 64,rat (c.f i).n.z 64],rat (c.f i).d 64]]),((0:Nat),ah.mk false true 3 1 fun x↦agg [c12,nil,nil])];some (ag [c3] (fork (decide (i<(↑d.m:Int))) (ag [c3,c3,c13,c3,c3,c13,(200:Nat)<2^41,(64:Nat)<2^41,(1:Nat)*12≤2^24,(m+1)*((224:Nat)+1)*2≤2^47,c3] (ag [-(2:Int)^63≤i+(1:Int)∧i+(1:Int)<(2:Int)^63] (leaf normal ([c8,c12,c9,c11,c10,c6,c7,int i64 (i+(1:Int))],((94216:Nat),ah.mk true true 12 (m+1) fun i_1↦if i_1<m then bw (g i_1) 400 else nth [agg [agg [rat c14.x 64,rat c14.y 64,rat c14.z 64],rat (v*(d.f i.toNat).d) ((200:Nat)+64)]] (agg [agg [c5,c5,c5],c5]) (i_1-m+0))::c4::((5:Nat),ah.mk false true 3 1 fun j↦if(j==0)=true then agg (c2.kids.set 2 (aU (own (nat_lit 94215+1) 12 0 (m+1))))else c2)::c1)))) (leaf (exit 3) ([c8,c12,c9,c11,c10,c6,c7,int i64 i],((7:Nat),ah.mk true true 12 m fun j↦agg [agg [rat (g j).n.x 400,rat (g j).n.y 400,rat (g j).n.z 400],rat (g j).d 400])::c4::((5:Nat),ah.mk false true 3 1 fun x↦c2)::c1)))):=by kernel_rfl
theorem Rh {c d:Cu} {u v:Rat} {f:Nat→Rat} {g:Nat→Pl} {n m:Nat} {i:Int}:bW T tX [] 60 oL [part pN [1]] ⟨aB uD (qH i),s6 c d u v f g n m,8⟩=
  let c1:Prop:=0<1;some (ag [c1,c1] (ag [c1] (leaf ret [agg [int i64 c.p,aj 3 n fun i↦rat (f (i+0)) 400,aj 12 m fun i↦agg [agg [rat (g (i+0)).n.x 400,rat (g (i+0)).n.y 400,rat (g (i+0)).n.z 400],rat (g (i+0)).d 400]],int i64 (0:Int)]))):=by kernel_rfl
theorem acm {e:Int} {c d:Cu}:jl T oL .ret ⟨aB [4,5,2,3] [.ptr 8192 0 3 0 [],.int .i64 e,.ptr 0 0 3 0 [],.ptr 4096 0 3 0 []],[(4096,jk d),(0,jk c),(8192,⟨false,true,3,1,fun j=>if(j==0)=true then aU (.agg (AV.kids (.agg [.int .i64 0,.nil,.nil])))else .agg [.int .i64 0,.nil,.nil]⟩)],8193⟩=
  some (ag [(0:Nat)<1] (leaf ret [agg [int i64 (0:Int),nil,nil],int i64 e])):=by kernel_rfl
theorem ab0 (a b:V3×Nat) (K:Nat) (h:ax [a.2<2^38,b.2<2^38]):aA P xE K [kV.make a,kV.make b] [] (aI (.bool (wN a.1 b.1)) []):=by
 obtain⟨u,n⟩:=a
 obtain⟨v,m⟩:=b
 obtain⟨h1,h2⟩:n<2^38∧m<2^38:=h
 refine bF hT FJ hm ahZ rfl (of_decide_eq_true (by kernel_rfl)) rfl 60 Rx (fun _=>?_) K []
 simp only[aa.all,ax,decide_eq_true_eq,decide_eq_false_iff_not]
 (repeat' with_reducible first|refine And.intro ?_ ?_|intro _)
 all_goals first|omega|decide|assumption|skip
 all_goals first|exact eV (by simp_all [wN])|simp_all
theorem Xg:aX P JQ:=aJ (gj hT (cC bn) hm (aP abL (by kernel_rfl) (by kernel_rfl) (by kernel_rfl)) _ _) (aJ (gZ ab0) bn)
theorem HD:aX P tX:=cC (mq Xg Es)
theorem s4 {rl:List (Nat×Nat)} {p:Int} {a b n n' m m':Nat} (h5:aS rl 6=some a) (h6:aS rl 7=some b) (hn:n=n') (hm2:m=m'):fc rl (.agg [.int .i64 p,.own a 3 0 n,.own b 12 0 m]) (.agg [.int .i64 p,.own 6 3 0 n',.own 7 12 0 m']):=
 gv ⟨⟨rfl,aG rfl⟩,⟨rfl,bY h5 rfl hn⟩,⟨rfl,bY h6 rfl hm2⟩,trivial⟩
set_option maxHeartbeats 1000000 in
theorem Rd {c d:Cu} (hc:dY c) (hd:dY d) (hm40:c.m+d.m≤41) (K:Nat):aA P uL K [bE c 64 64,bE d 64 64] [] (aI (.tuple [bE (gB c d) 1000 1000,.int .i64 (fm c d)]) []):=by
 refine gz (r:=aI (.tuple [bE (gB c d) 1000 1000,.int .i64 (fm c d)]) []) hT Kh rfl (of_decide_eq_true (by kernel_rfl)) rfl (fun _ cx h00=>?_) K []
 have hk:=nW h00
 obtain⟨c1,c2,c3,c4,c5⟩:=id hc
 obtain⟨d1,d2,d3,d4,d5⟩:=id hd
 have cl:=c1.len
 have dl:=d1.len
 obtain⟨u,hu⟩:∃u,u=c.k (c.n-1)-d.k 0:=⟨_,rfl⟩
 have hr:∀e:Int,fm c d=e→e≠0→qO T oL [4,5,2,3] (.tuple [bE (gB c d) 1000 1000,.int .i64 (fm c d)]) ([.ptr 8192 0 3 0 [],.int .i64 e,.ptr 0 0 3 0 [],.ptr 4096 0 3 0 [],.tuple [],.tuple [],.tuple [],.tuple []],
   [(4096,jk d),(0,jk c),(8192,⟨false,true,3,1,fun j=>if(j==0)=true then aU (.agg (AV.kids (.agg [.int .i64 0,.nil,.nil])))else .agg [.int .i64 0,.nil,.nil]⟩)]):=fun e he h0=>by
  obtain⟨e1,e2,e3⟩:=Jt (c:=c) (d:=d) (by rw[he];exact h0)
  refine⟨[_,_,_,_],_,8193,_,rfl,rfl,rfl,acm,rfl,⟨⟨by omega,fun i _=>rfl⟩,⟨by omega,fun i _=>rfl⟩,⟨by omega,fun i _=>AN rfl rfl⟩,trivial⟩,Nat.zero_lt_one,BS e1 e2 e3,bt he.symm,trivial⟩
 refine aq.iM hT HD hm (x:=xJ) [1,1,1,1,1,1,1,1,0,1] (i:=1) (y:=part xJ [1,1,1,1,1,1,1,1,0,1,0,0]) (z:=pN) (by kernel_rfl) (by kernel_rfl) (by kernel_rfl) Kh.dst hk (f1:=[26,33,200039]) (f2:=[99]) 60 xu 8
  (fun i:Nat=>qH ((d.p.toNat+1+i:Nat):Int)) (fun i=>s6 c d u (qy c d) (kj c d) c.f (c.n-1+i) c.m) (fun i=>i≤d.n-(d.p.toNat+1)∧fm c d=0) (fun i=>i=d.n-(d.p.toNat+1)∧fm c d=0) (fun i=>d.n-(d.p.toNat+1)-i) (qO T oL [4,5,2,3] (.tuple [bE (gB c d) 1000 1000,.int .i64 (fm c d)]))
  ⟨_,akb,?_⟩ (fun i hi=>⟨_,S5,?_⟩) (fun i hi=>?_) (fun v s' hv hs'=>hv.fin (L1:=[11,12,13,14]) hk hs')
 ·have em:((c.m:Int)-1).toNat=c.m-1:=by omega
  have ec:((c.n:Int)-1).toNat=c.n-1:=by omega
  have ep:d.p+1=((d.p.toNat+1+0:Nat):Int):=by omega
  simp only[aa.all,ax,wN,bne_iff_ne,ne_eq,bne_eq_false_iff_eq,decide_eq_true_eq,decide_eq_false_iff_not,Bool.not_eq_true',Bool.not_eq_false',Int.toNat_zero,Nat.add_zero,Nat.sub_zero,Nat.zero_add,em,ec,Int.toNat_natCast]
  rw[tu c 64 64,tu d 64 64]
  refine⟨by omega,by omega,by omega,fun hp=>⟨by omega,hr 1 (NK hp) (by decide)⟩,fun hp=>⟨by omega,fun hs=>⟨by omega,hr 7 (by rw[CV hp,if_neg hs]) (by decide)⟩,fun hs=>?_⟩⟩
  have hE:fm c d=0:=by rw[CV hp,if_pos hs]
  exact⟨by omega,by omega,by omega,by omega,by omega,by omega,by omega,0,⟨Nat.zero_le _,hE⟩,[(0,8192),(1,0),(2,4096),(3,237568),(4,307200),(5,368640),(6,344064),(7,360448)],rfl,by show _=(qH ((d.p.toNat+1+0:Nat):Int)).map _;rw[←ep];rfl,rfl,
   aW rfl rfl rfl (fun q hq=>.inr ⟨rfl,bp (IE hq) (by decide)⟩) (aW rfl rfl rfl (fun q hq=>.inr ⟨rfl,bQ ⟨bQ ⟨bp rfl (by decide),bp rfl (by decide),bp rfl (by decide),trivial⟩,bp rfl (by decide),trivial⟩⟩)
   (aF rfl rfl (s4 rfl rfl rfl rfl) (aF rfl rfl (.inr ⟨rfl,bp (r:=qy c d) rfl (show 64+64≤200 by decide)⟩) (aF rfl rfl (.inr ⟨rfl,bp (r:=u) hu.symm (show 64+64+1≤200 by decide)⟩) (aF rfl rfl (aD rfl rfl) (aF rfl rfl (aD rfl rfl) (aF rfl rfl (aD rfl rfl) trivial)))))))⟩
 ·simp only[aa.all,ax,decide_eq_true_eq,decide_eq_false_iff_not,Int.toNat_natCast,Nat.add_zero]
  refine⟨by omega,fun h1=>⟨by omega,by omega,i+1,⟨by omega,hi.2⟩,by dsimp only;omega,[(0,0),(1,1),(2,2),(3,3),(4,4),(5,5),(6,61448),(7,7)],rfl,rfl,rfl,aW rfl rfl rfl (fun q hq=>lZ (y:=kj c d) (fun _ _=>rfl) ?_ (Nat.le_refl _) (by decide) hq) (aW rfl rfl rfl (fun _ _=>aD rfl rfl) (aF rfl rfl (s4 rfl rfl rfl rfl) (aF rfl rfl (aD rfl rfl) (aF rfl rfl (aD rfl rfl) (aF rfl rfl (aD rfl rfl) (aF rfl rfl (aD rfl rfl) (aF rfl rfl (aD rfl rfl) trivial)))))))⟩,
   fun h1=>⟨rfl,i,⟨by omega,hi.2⟩,[(0,0),(1,1),(2,2),(3,3),(4,4),(5,5),(6,6),(7,7)],rfl,rfl,rfl,aW rfl rfl rfl (fun _ _=>aD rfl rfl) (aW rfl rfl rfl (fun _ _=>aD rfl rfl) (aF rfl rfl (s4 rfl rfl rfl rfl) (aF rfl rfl (aD rfl rfl) (aF rfl rfl (aD rfl rfl) (aF rfl rfl (aD rfl rfl) (aF rfl rfl (aD rfl rfl) (aF rfl rfl (aD rfl rfl) trivial)))))))⟩⟩
  rw[hu,Nat.add_comm (d.p.toNat+1) i];exact Jz
 ·obtain⟨rfl,hE⟩:=hi
  refine aq.iM hT HD hm (x:=pN) [0,1] (i:=3) (y:=part pN [0,1,0,0]) (z:=part pN [1]) (by kernel_rfl) (by kernel_rfl) (by kernel_rfl) (by kernel_rfl) hk (f1:=[]) (f2:=[118]) 60 uD 8
   (fun j:Nat=>qH ((j+1:Nat):Int)) (fun j=>s6 c d u (qy c d) (kj c d) (mY c d) (c.n-1+(d.n-(d.p.toNat+1))) (c.m+j)) (fun j=>j≤d.m-1) (fun j=>j=d.m-1) (fun j=>d.m-1-j) (fun _=>False) ⟨_,Ub,?_⟩ (fun j hj=>⟨_,ZN,?_⟩) (fun j hj=>?_) (fun _ _ h=>h.elim)
  ·simp only[aa.all,ax]
   exact⟨0,Nat.zero_le _,[(0,0),(1,1),(2,2),(3,3),(4,4),(5,5),(6,6),(7,7)],rfl,rfl,rfl,aW rfl rfl rfl (fun _ _=>aD rfl rfl) (aW rfl rfl rfl (fun q hq=>aD rfl (by rw[←Ju (d:=d) (show q<c.m from hq)])) (aF rfl rfl (s4 rfl rfl rfl rfl) (aF rfl rfl (aD rfl rfl) (aF rfl rfl (aD rfl rfl) (aF rfl rfl (aD rfl rfl) (aF rfl rfl (aD rfl rfl) (aF rfl rfl (aD rfl rfl) trivial)))))))⟩
  ·simp only[aa.all,ax,decide_eq_true_eq,decide_eq_false_iff_not,Int.toNat_natCast,Nat.add_zero]
   refine⟨by omega,fun h1=>⟨by omega,by omega,j+1,by omega,by dsimp only;omega,[(0,0),(1,1),(2,2),(3,3),(4,4),(5,5),(6,6),(7,94216)],rfl,rfl,rfl,aW rfl rfl rfl (fun _ _=>aD rfl rfl) (aW rfl rfl rfl (fun q hq=>oB (y:=mY c d) (fun _ _=>rfl) (s':=400) ?_ rfl (Nat.le_refl _) (Nat.le_refl _) hq) (aF rfl rfl (s4 rfl rfl rfl rfl) (aF rfl rfl (aD rfl rfl) (aF rfl rfl (aD rfl rfl) (aF rfl rfl (aD rfl rfl) (aF rfl rfl (aD rfl rfl) (aF rfl rfl (aD rfl rfl) trivial)))))))⟩,
    fun h1=>⟨rfl,j,by omega,[(0,0),(1,1),(2,2),(3,3),(4,4),(5,5),(6,6),(7,7)],rfl,rfl,rfl,aW rfl rfl rfl (fun _ _=>aD rfl rfl) (aW rfl rfl rfl (fun _ _=>aD rfl rfl) (aF rfl rfl (s4 rfl rfl rfl rfl) (aF rfl rfl (aD rfl rfl) (aF rfl rfl (aD rfl rfl) (aF rfl rfl (aD rfl rfl) (aF rfl rfl (aD rfl rfl) (aF rfl rfl (aD rfl rfl) trivial)))))))⟩⟩
   rw[←Ie]
   exact bQ ⟨bQ ⟨bp rfl (by decide),bp rfl (by decide),bp rfl (by decide),trivial⟩,bp rfl (by decide),trivial⟩
  ·subst hj
   refine aq.ni ((aE.fin hT HD hm 60 Rh (by kernel_rfl) ?_).mono fun _ _ h=>.inl h)
   simp only[aa.all,ax,Nat.add_zero]
   exact⟨by omega,by omega,by rw[KF hE];exact bQ ⟨.refl _,jh fun q _=>bp rfl (by decide),jh fun q _=>bQ ⟨bQ ⟨bp rfl (by decide),bp rfl (by decide),bp rfl (by decide),trivial⟩,bp rfl (by decide),trivial⟩,trivial⟩,bt hE.symm,trivial⟩
theorem ahg:∀K args pre q,Bg K args pre=some q→aA P uL K args pre q:=cz fun⟨c,d,_⟩ K hn=>Rd hn.1 hn.2.1 hn.2.2 K
end Go.Am.B

/- brepkernelmade: pole, Curve. -/
namespace Go.Am.B
open Go Go.Am.N AV aa ak IntKind
theorem aeZ:aO P BE Ar (au Ar):=aP ahP (by kernel_rfl) (by kernel_rfl) (by kernel_rfl)
theorem Mz:aO P wq C3 (au C3):=aP YR (by kernel_rfl) (by kernel_rfl) (by kernel_rfl)
def MB:aR:=[(oy,gG tM),(xh,gG C1),(lJ,tL)]
def sA (n:Nat) (f:Nat→AV) (a:Int) (b:Bool):Pl:=⟨⟨cQ n f a,cQ n f (cI n f a),if b=true then 0 else cQ n f (cI n f (cI n f a))⟩,((1+cB n f (bT n f a) 3:Int):Rat)⟩
def DS (n:Nat) (f:Nat→AV) (a:Int):Int:=bz n (bT n f a)
def HM (n:Nat) (f:Nat→AV) (a:Int) (l:List AV):Option (AV×Int×List Prop):=match l with
 |[.bool b]=>some (bw (sA n f a b) 64,DS n f a,[])
 |_=>none
def CM:aR:=nG::(oy,gG tM)::(uP,gG HH)::(BE,gG HM)::[]
abbrev uS:List Nat:=[0,3,8,9,10]
abbrev Gt (b:Bool) (i:Nat):List AV:=[.ptr 0 0 2 0 [],.bool b,.ptr 1 0 3 0 [],.ptr 2 0 3 0 [],.int .i64 i]
abbrev FH (n:Nat) (z:Nat→Int) (a p:Int) (N:Nat) (k:Nat→Rat) (f:Nat→Pl) (j:Nat):aC:=
 [(3,⟨true,true,12,j,fun i=>bw (f i) 64⟩),(2,⟨false,true,3,1,fun _=>.agg [.int .i64 p,aV k N 64,.own 3 12 0 j]⟩),(1,⟨false,true,3,1,fun _=>.agg [.int .i64 0,.nil,.nil]⟩),(0,j7 n z a)]
noncomputable abbrev zR:Code:=au C3
theorem S6 {n:Nat} {z:Nat→Int} {a:Int} {b:Bool}:qo T MB [8] 60 Ar (au Ar) ⟨aN 0 [.ptr 0 0 2 0 [],.bool b],[(0,j7 n z a)],1⟩=
  let c9:Int:=cI n (fun i↦int i64 (z i)) a;let c8:AV:=rat (cQ n (fun i↦int i64 (z i)) a) 64;let c6:Int:=bT n (fun i↦int i64 (z i)) a;let c4:Prop:=0<1;let c5:AV:=rat (cQ n (fun i↦int i64 (z i)) c9) 64;let c3:Option ah:=some (ah.mk false true 2 1 fun x↦agg [aj 1 n fun i↦int i64 (z i),int i64 (bz n c6)]);let c1:Int:=i64.wrap ((1:Int)+(cB n (fun i↦int i64 (z i)) c6 (3:Int)).tmod (3:Int));let c7:AV:=rat (↑c1:Rat) (Max.max 1 (br c1.natAbs));let c2:List Prop:=[c4,b6 n (fun i↦int i64 (z i)) c6,(0:Int)<(3:Int),(3:Int)<(2:Int)^62,(3:Int)≠(0:Int),-(2:Int)^63≤c1,c1<(2:Int)^63,c4];some (ag [b6 n (fun i↦int i64 (z i)) a,c4] (fork b (ag [(0:Int)≤(2:Int)∧(2:Int)<(↑(3:Nat):Int),c4] (ag c2 (ag [c4] (leaf ret ([agg [agg [c8,c5,agg [AV.bool false,mag 0,mag 0]],c7]],c3))))) (ag c2 (ag [c4] (leaf ret ([agg [agg [c8,c5,rat (cQ n (fun i↦int i64 (z i)) (cI n (fun i↦int i64 (z i)) c9)) 64],c7]],c3)))))):=by kernel_rfl
theorem agP {n:Nat} {z:Nat→Int} {a p m:Int} {b:Bool}:aK T CM [] 60 uS (before zR [1,1,1,0,1]) ⟨aN 0 [.ptr 0 0 2 0 [],.int .i64 p,.int .i64 m,.bool b],[(0,j7 n z a)],1⟩=
  let c4:Prop:=0<1;let c2:AV:=agg [int i64 (0:Int),nil,nil];let c1:Int:=(1:Int)+cB n (fun i↦int i64 (z i)) a p;let c3:AV:=aU (agg (c2.kids.set 0 (aU (int i64 c1))));some (ag [b6 n (fun i↦int i64 (z i)) a,(0:Int)<p,p<(2:Int)^62,-(2:Int)^63≤c1∧c1<(2:Int)^63,c4] (ag [c4,b6 n (fun i↦int i64 (z i)) (bz n a),(1:Int)≤c1,c1<(1000:Int),(0:Int)≤m,m<(1000:Int),c4] (leaf normal ([ptr 0 0 2 0 [],AV.bool b,ptr 1 0 3 0 [],ptr 24577 0 3 0 [],int i64 (0:Int)],[((24577:Nat),ah.mk false true 3 1 fun j↦if(j==0)=true then agg ((if((0:Nat)==0)=true then c3 else c2).kids.set 1 (aU (aV (oQ n (fun i↦int i64 (z i)) (bz n a) c1.toNat m.toNat) (mm n (fun i↦int i64 (z i)) (bz n a) c1.toNat m.toNat) 64)))else if(j==0)=true then c3 else c2),((1:Nat),ah.mk false true 3 1 fun x↦c2),((0:Nat),ah.mk false true 2 1 fun x↦agg [aj 1 n fun i↦int i64 (z i),int i64 (pn n (fun i↦int i64 (z i)) (bz n a) c1.toNat m.toNat)])])))):=by kernel_rfl
theorem aiw {n N j:Nat} {z:Nat→Int} {a p:Int} {k:Nat→Rat} {f:Nat→Pl} {b:Bool}:aK T CM [30] 60 uS [part zR [1,1,1,0,1,0,0]] ⟨aB uS (Gt b j),FH n z a p N k f j,4⟩=
  let c15:Int:=(↑j:Int);let c14:Int:=(↑N:Int)-p;let c13:Int:=cI n (fun i↦int i64 (z i)) a;let c12:AV:=own 3 12 0 j;let c11:AV:=aj 1 n fun i↦int i64 (z i);let c9:AV:=ptr 2 0 3 0 [];let c8:AV:=ptr 1 0 3 0 [];let c7:AV:=ptr 0 0 2 0 [];let c6:Prop:=0<1;let c5:AV:=rat 0 1;let c2:Nat×ah:=((1:Nat),ah.mk false true 3 1 fun x↦agg [int i64 (0:Int),nil,nil]);let c1:Int:=(2:Int)^63;let c10:Int:=c15+(1:Int);let c4:Int:=c14-(1:Int);let c3:AV:=agg [int i64 p,aV k N 64,c12];some (ag [c6,c6,-c1≤c14∧c14<c1,-c1≤c4∧c4<c1] (fork (decide (c15<c4)) (ag [c6,b6 n (fun i↦int i64 (z i)) a,(1:Nat)*12≤2^24,(j+1)*((224:Nat)+1)*2≤2^47,c6] (ag [-c1≤c10∧c10<c1] (leaf normal ([c7,AV.bool b,c8,c9,int i64 c10],[((61444:Nat),ah.mk true true 12 (j+1) fun i↦if i<j then bw (f i) 64 else nth [agg [agg [rat (cQ n (fun i↦int i64 (z i)) a) 64,rat (cQ n (fun i↦int i64 (z i)) c13) 64,rat (if b=true then 0 else cQ n (fun i↦int i64 (z i)) (cI n (fun i↦int i64 (z i)) c13)) 64],rat (↑((1:Int)+cB n (fun i↦int i64 (z i)) (bT n (fun i↦int i64 (z i)) a) (3:Int)):Rat) 64]] (agg [agg [c5,c5,c5],c5]) (i-j+0)),((2:Nat),ah.mk false true 3 1 fun j_1↦if(j_1==0)=true then agg (c3.kids.set 2 (aU (own (nat_lit 61443+1) 12 0 (j+1))))else c3),c2,((0:Nat),ah.mk false true 2 1 fun x↦agg [c11,int i64 (DS n (fun i↦int i64 (z i)) a)])])))) (leaf (exit 0) ([c7,AV.bool b,c8,c9,int i64 c15],[((3:Nat),ah.mk true true 12 j fun i↦agg [agg [rat (f i).n.x 64,rat (f i).n.y 64,rat (f i).n.z 64],rat (f i).d 64]),((2:Nat),ah.mk false true 3 1 fun x↦agg [int i64 p,aj 3 N fun i↦rat (k i) 64,c12]),c2,((0:Nat),ah.mk false true 2 1 fun x↦agg [c11,int i64 a])])))):=by kernel_rfl
theorem ahD:aX P MB:=aJ AX (aJ O8 (aJ zo bn))
theorem ahC:∀K args pre r,gG HM K args pre=some r→aA P BE K args pre r:=by
 refine rO fun {k n z a l v b q o} K hg ho hd hq=>?_
 unfold HM at hg
 split at hg
 ·rename_i b
  simp only[Option.some.injEq,Prod.mk.injEq]at hg
  obtain⟨rfl,rfl,rfl⟩:=hg
  refine u7 hT ahD hm aeZ rfl rfl (of_decide_eq_true (by kernel_rfl)) ho 60 S6 (fun _=>?_) K
  have a1:=iR (n:=n) (f:=fun i=>.int .i64 (z i)) (a:=bT n (fun i=>.int .i64 (z i)) a) (m:=3) (by omega)
  have a2:=jo (n:=n) (f:=fun i=>.int .i64 (z i)) (a:=bT n (fun i=>.int .i64 (z i)) a) (m:=3) (by omega)
  unfold sA
  generalize cB n (fun i=>.int .i64 (z i)) (bT n (fun i=>.int .i64 (z i)) a) 3=x at*
  have e1:x.tmod 3=x:=by rw[Int.tmod_eq_of_lt a1 a2]
  have e2:i64.wrap (1+x)=1+x:=wrap_i64 (by omega) (by omega)
  simp only[aa.all,ax,e1,e2]
  have hw:bA (.rat ((1+x:Int):Rat) (max 1 (br (1+x).natAbs))) (.rat ((1+x:Int):Rat) 64):=fI rfl (LM (y:=0) (by omega) (by omega))
  refine⟨⟨hd,by omega⟩,fun hb=>⟨by omega,⟨by omega,hd.nk,by omega,by omega,by omega,by omega,by omega,by omega⟩,by omega,?_,_,rfl,rfl,lF rfl rfl⟩,fun hb=>⟨⟨by omega,hd.nk,by omega,by omega,by omega,by omega,by omega,by omega⟩,by omega,?_,_,rfl,rfl,lF rfl rfl⟩⟩
  ·rw[if_pos hb]
   exact bQ ⟨bQ ⟨.refl _,.refl _,pL (q:=(0:Rat)) ⟨by decide,by decide⟩ rfl rfl rfl,trivial⟩,hw,trivial⟩
  ·rw[if_neg (by rw[hb];decide)]
   exact bQ ⟨.refl _,hw,trivial⟩
 ·simp at hg
theorem M0:aX P CM:=cC (aJ AX (aJ QW (aJ ahC bn)))
def gA (n:Nat) (f:Nat→AV) (a:Int):Nat→Int
 |0=>a
 |j+1=>DS n f (gA n f a j)
theorem b6.pU {n:Nat} {f:Nat→AV} {a:Int} (h:b6 n f a):∀j,b6 n f (gA n f a j)
 |0=>h
 |j+1=>(h.pU j).nk.next
theorem b6.fJ {n:Nat} {f:Nat→AV} {a:Int} {p m:Nat} (h:b6 n f a) (hp:1≤p):b6 n f (pn n f a p m):=(Di h hp _).2
def ke (n:Nat) (f:Nat→AV) (a d:Int):Nat:=(1+cB n f a d).toNat
def oT (n:Nat) (f:Nat→AV) (a d:Int) (m:Nat):Int:=pn n f (bz n a) (ke n f a d) m
def dB (n:Nat) (f:Nat→AV) (a d:Int) (m:Nat) (b:Bool):Cu:=
 ⟨(ke n f a d:Nat),mm n f (bz n a) (ke n f a d) m,oQ n f (bz n a) (ke n f a d) m,ke n f a d+1+jn n f (bz n a) m,fun i=>sA n f (gA n f (oT n f a d m) i) b⟩
def iO (n:Nat) (f:Nat→AV) (a d:Int) (m:Nat):Int:=gA n f (oT n f a d m) (ke n f a d+1+jn n f (bz n a) m)
theorem Lj {n:Nat} {f:Nat→AV} {a:Int} {m:Nat}:jn n f a m≤m:=by
 have h1:=iR (n:=n) (f:=f) (a:=bz n a) (m:=m+1) (by omega)
 have h2:=jo (n:=n) (f:=f) (a:=bz n a) (m:=m+1) (by omega)
 unfold jn;omega
theorem Kf {n m:Nat} {f:Nat→AV} {a d:Int} {b:Bool} (h:b6 n f a) (hd:1≤d):Kn (dB n f a d m b).n (dB n f a d m b).p.toNat (dB n f a d m b).k∧1≤(dB n f a d m b).p∧(dB n f a d m b).p≤d∧((dB n f a d m b).m:Int)=((dB n f a d m b).n:Int)-(dB n f a d m b).p-1∧
  (dB n f a d m b).m≤(dB n f a d m b).p.toNat+1+m∧∀i,1≤((dB n f a d m b).f i).d∧((dB n f a d m b).f i).d≤3:=by
 have a1:=iR (n:=n) (f:=f) (a:=a) (m:=d) (by omega)
 have a2:=jo (n:=n) (f:=f) (a:=a) (m:=d) (by omega)
 have hJ:=Lj (n:=n) (f:=f) (a:=bz n a) (m:=m)
 unfold dB
 obtain⟨p,hp⟩:∃p,p=ke n f a d:=⟨_,rfl⟩
 have hp2:1+cB n f a d=(p:Int):=by rw[hp];unfold ke;omega
 rw[←hp]
 dsimp only
 refine⟨?_,by omega,by omega,?_,by omega,fun i=>?_⟩
 ·rw[Int.toNat_natCast]
  exact(Di h.next (by omega) _).1.done
 ·have:mm n f (bz n a) p m=2*p+2+jn n f (bz n a) m:=rfl
  omega
 ·have c1:=iR (n:=n) (f:=f) (a:=bT n f (gA n f (oT n f a d m) i)) (m:=3) (by omega)
  have c2:=jo (n:=n) (f:=f) (a:=bT n f (gA n f (oT n f a d m) i)) (m:=3) (by omega)
  unfold sA
  dsimp only
  generalize cB n f (bT n f (gA n f (oT n f a d m) i)) 3=x at*
  exact⟨by exact_mod_cast (show 1≤1+x by omega),by exact_mod_cast (show 1+x≤3 by omega)⟩
end Go.Am.B

/- made.Curve, whose pU may be written to. -/
namespace Go.Am.B
open Go Go.Am.N AV aa ak IntKind
def EI:Spec:=fun K args pre=>match args with
 |[.ptr k 0 2 0 [],.int .i64 d,.int .i64 m,.bool b]=>match Dg k pre with
  |some (n,f,a)=>if k==K then none else some ⟨fy [.agg [.int .i64 (dB n f a d m.toNat b).p,aV (dB n f a d m.toNat b).k (dB n f a d m.toNat b).n 64,.own K 12 0 (dB n f a d m.toNat b).m]],[(k,gM n f (iO n f a d m.toNat)),(K,lC (dB n f a d m.toNat b).m (dB n f a d m.toNat b).f 64)],b6 n f a::[1≤d,d<900,0≤m,m<900]⟩
  |none=>none
 |_=>none
theorem agZ {n N j:Nat} {z:Nat→Int} {a p:Int} {k:Nat→Rat} {f:Nat→Pl} {b:Bool}:aK T CM [] 60 [0,8] [part zR [1,1,1,1]] ⟨aB uS (Gt b j),FH n z a p N k f j,4⟩=
  some (ag [(0:Nat)<1,(0:Nat)<1] (leaf ret ([ptr 0 0 2 0 [],ptr 1 0 3 0 []],[((3:Nat),ah.mk true true 12 j fun i↦agg [agg [rat (f i).n.x 64,rat (f i).n.y 64,rat (f i).n.z 64],rat (f i).d 64]),((1:Nat),ah.mk false true 3 1 fun j_1↦if(j_1==0)=true then aU (agg [int i64 p,aV k N 64,own 3 12 0 j])else agg [int i64 (0:Int),nil,nil]),((0:Nat),ah.mk false true 2 1 fun x↦agg [aj 1 n fun i↦int i64 (z i),int i64 a])]))):=by kernel_rfl
theorem TR {k n m:Nat} {z:Nat→Int} {a d:Int} {b:Bool} {o:ah} {K:Nat} (hne:k≠K) (ho:∀ρ,ck ρ o (j7 n z a)) (h:b6 n (fun i=>.int .i64 (z i)) a) (hd1:1≤d) (hd2:d<900) (hm2:m<900) {l:List Prop}:
  aA P wq K [.ptr k 0 2 0 [],.int .i64 d,.int .i64 m,.bool b] [(k,o)] ⟨fy [.agg [.int .i64 (dB n (fun i=>.int .i64 (z i)) a d m b).p,aV (dB n (fun i=>.int .i64 (z i)) a d m b).k (dB n (fun i=>.int .i64 (z i)) a d m b).n 64,.own K 12 0 (dB n (fun i=>.int .i64 (z i)) a d m b).m]],
   [(k,j7 n z (iO n (fun i=>.int .i64 (z i)) a d m)),(K,lC (dB n (fun i=>.int .i64 (z i)) a d m b).m (dB n (fun i=>.int .i64 (z i)) a d m b).f 64)],l⟩:=by
 refine ain hT Mz hne rfl rfl (of_decide_eq_true (by kernel_rfl)) ho fun _ c hk=>?_
 have a1:=iR (n:=n) (f:=fun i=>.int .i64 (z i)) (a:=a) (m:=d) (by omega)
 have a2:=jo (n:=n) (f:=fun i=>.int .i64 (z i)) (a:=a) (m:=d) (by omega)
 have hJ:=Lj (n:=n) (f:=fun i=>.int .i64 (z i)) (a:=bz n a) (m:=m)
 unfold dB iO oT ke
 obtain⟨p,hp⟩:∃p,p=(1+cB n (fun i=>.int .i64 (z i)) a d).toNat:=⟨_,rfl⟩
 have hp2:1+cB n (fun i=>.int .i64 (z i)) a d=(p:Int):=by omega
 rw[←hp]
 have hB:=(h.next.fJ (p:=p) (m:=m) (by omega))
 obtain⟨N,hN⟩:∃N,N=mm n (fun i=>.int .i64 (z i)) (bz n a) p m:=⟨_,rfl⟩
 obtain⟨kk,hkk⟩:∃kk,kk=oQ n (fun i=>.int .i64 (z i)) (bz n a) p m:=⟨_,rfl⟩
 obtain⟨B,hB2⟩:∃B,B=pn n (fun i=>.int .i64 (z i)) (bz n a) p m:=⟨_,rfl⟩
 have hN2:N=2*p+2+jn n (fun i=>.int .i64 (z i)) (bz n a) m:=hN
 rw[←hN,←hkk,←hB2]
 rw[←hB2]at hB
 generalize jn n (fun i=>.int .i64 (z i)) (bz n a) m=J at*
 refine aq.iM hT M0 hm [1,1,1,0,1] (i:=0) (y:=part zR [1,1,1,0,1,0,0]) (z:=part zR [1,1,1,1]) (by kernel_rfl) (by kernel_rfl) (by kernel_rfl) Mz.dst hk (f1:=[]) (f2:=[30]) 60 uS 4 (fun j:Nat=>Gt b j)
  (fun j=>FH n z (gA n (fun i=>.int .i64 (z i)) B j) p N kk (fun i=>sA n (fun i=>.int .i64 (z i)) (gA n (fun i=>.int .i64 (z i)) B i) b) j) (fun j=>j≤p+1+J) (fun j=>j=p+1+J) (fun j=>p+1+J-j) (fun _=>False) ⟨_,agP,?_⟩ (fun j hj=>⟨_,aiw,?_⟩) (fun j hj=>?_) (fun _ _ h=>h.elim)
 ·simp only[aa.all,ax,hp2,Int.toNat_natCast]
  rw[←hN,←hkk,←hB2]
  exact⟨⟨h,by omega,by omega,by omega,by omega⟩,⟨by omega,h.next,by omega,by omega,by omega,by omega,by omega⟩,0,Nat.zero_le _,[(0,0),(1,1),(2,24577)],rfl,rfl,rfl,
   jy rfl (by omega) (by omega) (aF rfl rfl (gv ⟨⟨rfl,aG rfl⟩,⟨rfl,aG rfl⟩,⟨rfl,me (by omega)⟩,trivial⟩) (aF rfl rfl (aD rfl rfl) (aF rfl rfl (aD rfl rfl) trivial)))⟩
 ·simp only[aa.all,ax,decide_eq_true_eq,decide_eq_false_iff_not]
  have hv:∀{rl:List (Nat×Nat)} {a l:Nat},aS rl 3=some a→fc rl (.agg [.int .i64 p,aV kk N 64,.own a 12 0 l]) (.agg [.int .i64 p,aV kk N 64,.own 3 12 0 l]):=fun h=>gv ⟨⟨rfl,aG rfl⟩,⟨rfl,aG rfl⟩,⟨rfl,bY h rfl rfl⟩,trivial⟩
  refine⟨⟨by omega,by omega,by omega,by omega⟩,fun h=>⟨⟨by omega,hB.pU j,by omega,by omega,by omega⟩,by omega,j+1,by omega,by dsimp only;omega,[(0,0),(1,1),(2,2),(3,61444)],rfl,rfl,rfl,
   aW rfl rfl rfl (fun i hi=>oB (y:=fun i=>sA n (fun i=>.int .i64 (z i)) (gA n (fun i=>.int .i64 (z i)) B i) b) (fun _ _=>rfl) (.refl _) rfl (Nat.le_refl _) (Nat.le_refl _) hi) (aF rfl rfl (hv rfl) (aF rfl rfl (aD rfl rfl) (aF rfl rfl (aD rfl rfl) trivial)))⟩,
   fun h=>⟨rfl,j,by omega,[(0,0),(1,1),(2,2),(3,3)],rfl,rfl,rfl,aW rfl rfl rfl (fun _ _=>aD rfl rfl) (aF rfl rfl (hv rfl) (aF rfl rfl (aD rfl rfl) (aF rfl rfl (aD rfl rfl) trivial)))⟩⟩
 ·subst hj
  refine aq.bk hT M0 hm 60 [0,8] agZ (by kernel_rfl) ?_
  simp only[aa.all,ax]
  have r1:aS [(k,0),(K,3)] K=some 3:=Cg hne
  have r2:aS [(k,0),(K,3)] k=some 0:=CS
  refine⟨by omega,fun s' hs'=>⟨.inr trivial,[0,8],_,[.agg [.int .i64 p,aV kk N 64,.own 3 12 0 (p+1+J)]],[0<1],_,3,_,_,hs',by kernel_rfl,Nat.zero_lt_one,by decide,⟨⟨rfl,GV ⟨⟨rfl,aG rfl⟩,⟨rfl,aG rfl⟩,⟨rfl,bY r1 rfl rfl⟩,trivial⟩⟩,trivial⟩,rfl,lF rfl rfl,rfl,gy rfl fun i hi=>aG rfl⟩⟩
theorem SM:∀K args pre r,EI K args pre=some r→aA P wq K args pre r:=by
 intro K args pre r hs
 unfold EI at hs
 split at hs
 ·rename_i k d m b
  split at hs
  ·rename_i n f a hd
   split at hs
   ·simp at hs
   ·rename_i hne
    simp only[Option.some.injEq]at hs
    subst hs
    obtain⟨o,rfl,ho⟩:=Kc hd
    intro need
    obtain⟨hd,hq⟩:=(cE (a:=[b6 n f a]) (b:=_)).1 need
    obtain⟨z,rfl⟩:∃z:Nat→Int,f=fun i=>.int .i64 (z i):=⟨fun i=>intOf (f i),funext fun i=>hd.ints i⟩
    obtain⟨h1,h2,h3,h4⟩:=hq
    have h4:m<900:=h4
    have:=TR (k:=k) (m:=m.toNat) (b:=b) (K:=K) (l:=b6 n (fun i=>.int .i64 (z i)) a::[1≤d,d<900,0≤m,m<900]) (fun e=>hne (by simp[e])) ho hd h1 h2 (by omega)
    rw[Int.toNat_of_nonneg h3]at this
    exact this need
  ·simp at hs
 ·simp at hs
end Go.Am.B

/- basis.Blossom, handed coefficients that may still be written to. -/
namespace Go.Am.B
open Go Go.Am.N AV aa ak IntKind
abbrev jM (m:Nat) (c:Nat→Rat):ah:=⟨true,true,3,m,fun i=>.rat (c i) sK⟩
abbrev nr:List Nat:=[10,11,2,4,0,1,3,12,66,67,68]
abbrev tR (n:Nat) (k:Nat→Rat) (p m:Nat) (a:Nat→Rat) (i:Nat) (r:Nat):List AV:=[.ptr 1 0 3 0 [],.int .i64 0,.own 0 3 0 m,ls a p,ls k n,.int .i64 p,.int .i64 i,.own 2 3 0 (p+1),ls a p,.int .i64 p,.int .i64 r]
abbrev lz (p m:Nat) (c:Nat→Rat) (x:Nat→Rat) (s:Nat→Nat):aC:=[(2,jI (p+1) x s),(1,zO),(0,jM m c)]
abbrev zH:List Nat:=[10,11,2,4,0,1,3,12,66,67,68,13,14,15]
abbrev G7 (n:Nat) (k:Nat→Rat) (p m:Nat) (a:Nat→Rat) (i:Nat) (r j:Nat):List AV:=[.ptr 1 0 3 0 [],.int .i64 0,.own 0 3 0 m,ls a p,ls k n,.int .i64 p,.int .i64 i,.own 2 3 0 (p+1),ls a p,.int .i64 p,.int .i64 r,.int .i64 r,.ptr 3 0 3 0 [],.int .i64 j]
theorem adF {n m p l:Nat} {k c a:Nat→Rat} {i:Int}:aK T p8 [18,25,36,42,32] 60 nr (before Dc [1,1,1,1,0,1]) ⟨aN 0 [ls k n,.int .i64 p,.own 0 3 0 m,.int .i64 i,ls a l],[(0,jM m c)],1⟩=
  let c28 : Prop := n < 2 ^ 40; let c27 : Prop := sK < 2 ^ 42; let c26 : Prop := bP (fun i ↦ rat (k i) sK) n sK; let c25 : AV := own 0 3 0 m; let c24 : Int := i + (1 : Int); let c23 : AV := aj 3 n fun i ↦ rat (k i) 4096; let c20 : Int := (2 : Int) ^ 40; let c19 : AV := rat 0 1; let c17 : Nat × ah := ((0 : Nat), ah.mk true true 3 m fun i ↦ rat (c i) 4096); let c15 : AV := ptr 1 0 3 0 []; let c14 : AV := aj 3 l fun i ↦ rat (a i) 4096; let c13 : Int := (2 : Int) ^ 63; let c12 : Int := (↑m : Int); let c5 : Int := (↑p : Int); let c21 : Bool := decide (i < c5); let c18 : Bool := c12 != (↑n : Int) - c5 - (1 : Int); let c16 : Bool := bif false then true else decide (i ≥ c12); let c11 : Int := c5 + (1 : Int); let c10 : Int := dZ (k i.toNat) (k c24.toNat); let c8 : List AV := [c25, c14, c23, int i64 c5, int i64 i, tuple [], tuple [], tuple [], tuple []]; let c7 : List Prop := [(0 : Int) ≤ i ∧ i.toNat < n, -c13 ≤ c24 ∧ c24 < c13, (0 : Int) ≤ c24 ∧ c24.toNat < n, c27, c27]; let c6 : List (Nat × ah) := [c17, ((1 : Nat), ah.mk false true 3 1 fun j ↦ if (j == 0) = true then aU (agg c19.kids) else c19)]; let c22 : Bool := bif false then true else decide (c10 ≥ (0 : Int)); let c9 : Nat := 0 + Min.min (c12.toNat - (i - c5).toNat) c11.toNat; let c4 : aa (List AV × aC) := ag [(0 : Nat) < 1] (leaf ret (c15 :: int i64 (1 : Int) :: c8, c6)); let c2 : aa (List AV × aC) := ag [(0 : Nat) < 1] (leaf ret (c15 :: int i64 (7 : Int) :: c8, c6)); let c1 : aa (List AV × aC) := ag [-c13 ≤ c11 ∧ c11 < c13, (0 : Int) ≤ c11 ∧ c11 ≤ c11 ∧ c11 ≤ (2 : Int) ^ 47 ∧ c11 * (↑(56 : Nat) : Int) ≤ (2 : Int) ^ 47] (ag [-c13 ≤ i - c5 ∧ i - c5 < c13, (0 : Int) ≤ i - c5 ∧ i - c5 ≤ c12 ∧ c12 ≤ c12 ∧ c12 ≤ c12] (leaf normal ([c15, int i64 (0 : Int), c25, c14, c23, int i64 c5, int i64 i, own 163841 3 0 c11.toNat, c14, int i64 (↑l : Int), int i64 (0 : Int)], [((163841 : Nat), ah.mk true true 3 c11.toNat fun i_1 ↦ if 0 ≤ i_1 ∧ i_1 < c9 then rat (c (i_1 - 0 + ((0 : Nat) + (i - c5).toNat))) sK else c19), c17, ((1 : Nat), ah.mk false true 3 1 fun x ↦ c19)]))); let c3 : aa (List AV × aC) := fork c21 (fork true (ag [c21 = true, true = true] (fork true c2 c1)) (ag ((c21 = true) :: (true = false) :: c7) (fork c22 c2 c1))) (fork c16 (ag [c21 = false, c16 = true] (fork true c2 c1)) (ag ((c21 = false) :: (c16 = false) :: c7) (fork c22 c2 c1))); some (fork c18 (ag [c26, c28, -c20 < c5, c5 < c20, c18 = true] (fork true c4 c3)) (ag [c26, c28, -c20 < c5, c5 < c20, c18 = false] (fork (bif false then true else (↑l : Int) != c5) c4 c3))) := by kernel_rfl
theorem afv {e:Int} {m:Nat} {c:Nat→Rat}:yz T j4 .ret ⟨aB [10,11,2] [.ptr 1 0 3 0 [],.int .i64 e,.own 0 3 0 m],[(0,jM m c),(1,⟨false,true,3,1,fun j=>if(j==0)=true then aU (agg (kids (.rat 0 1)))else .rat 0 1⟩)],2⟩=
  some (ag [(0:Nat)<1] (leaf ret ([agg [AV.bool false,mag 0,mag 0],int i64 e],some (ah.mk true true 3 m fun i↦rat (c i) 4096)))):=by kernel_rfl
theorem aga {n p m i r:Nat} {k a c x:Nat→Rat} {s:Nat→Nat}:aK T p8 [69] 60 nr (before pP [1,1,0]) ⟨aB nr (tR n k p m a i r),lz p m c x s,3⟩=
  let c3:Int:=(↑p:Int);let c2:AV:=aj 3 p fun i↦rat (a i) 4096;let c1:List AV×aC:=([ptr 1 0 3 0 [],int i64 (0:Int),own 0 3 0 m,c2,aj 3 n fun i↦rat (k i) 4096,int i64 c3,int i64 (↑i:Int),own 2 3 0 (p+1),c2,int i64 c3,int i64 (↑r:Int)],[((2:Nat),ah.mk true true 3 (p+1) fun i↦rat (x i) (s i)),((0:Nat),ah.mk true true 3 m fun i↦rat (c i) 4096),((1:Nat),ah.mk false true 3 1 fun x↦rat 0 1)]);some (fork (decide ((↑r:Int)<c3)) (leaf normal c1) (leaf (exit 1) c1)):=by kernel_rfl
theorem RR {n p m i r:Nat} {k a c x:Nat→Rat} {s:Nat→Nat}:aK T p8 [] 60 zH (before wZ [1,1]) ⟨aB nr (tR n k p m a i r),lz p m c x s,3⟩=
  let c4:AV:=rat 0 1;let c3:Int:=(↑r:Int);let c2:AV:=int i64 (↑p:Int);let c1:AV:=aj 3 p fun i↦rat (a i) 4096;some (ag [(0:Int)≤c3∧c3.toNat<p,(0:Nat)<1] (leaf normal ([ptr 1 0 3 0 [],int i64 (0:Int),own 0 3 0 m,c1,aj 3 n fun i↦rat (k i) 4096,c2,int i64 (↑i:Int),own 2 3 0 (p+1),c1,c2,int i64 c3,int i64 c3,ptr 12291 0 3 0 [],c2],[((12291:Nat),ah.mk false true 3 1 fun j↦if(j==0)=true then aU (rat (a c3.toNat) sK)else c4),((2:Nat),ah.mk true true 3 (p+1) fun i↦rat (x i) (s i)),((0:Nat),ah.mk true true 3 m fun i↦rat (c i) 4096),((1:Nat),ah.mk false true 3 1 fun x↦c4)]))):=by kernel_rfl
theorem VI {n p m i r j:Nat} {k a c x:Nat→Rat} {s:Nat→Nat} {t:Rat}:aK T p8 [76] 60 zH [part wZ [1,1,0,0]] ⟨aB zH (G7 n k p m a i r j),(3,tP t sK)::lz p m c x s,4⟩=
  let c27:Int:=(↑r:Int);let c23:Int:=(↑i:Int);let c21:AV:=own 0 3 0 m;let c19:Prop:=0<1;let c17:AV:=ptr 3 0 3 0 [];let c16:AV:=ptr 1 0 3 0 [];let c15:AV:=aj 3 n fun i↦rat (k i) 4096;let c13:Int:=(↑p:Int);let c12:Int:=(↑j:Int);let c11:Nat×ah:=((3:Nat),ah.mk false true 3 1 fun x↦rat t 4096);let c10:Nat:=2^42;let c8:Nat:=p+1;let c7:AV:=aj 3 p fun i↦rat (a i) 4096;let c6:List (Nat×ah):=[((0:Nat),ah.mk true true 3 m fun i↦rat (c i) 4096),((1:Nat),ah.mk false true 3 1 fun x↦rat 0 1)];let c3:Int:=(2:Int)^63;let c26:AV:=int i64 c13;let c24:Prop:=(0:Int)≤c12∧c12.toNat<c8;let c20:AV:=own 2 3 0 c8;let c14:AV:=int i64 c27;let c4:Nat:=c12.toNat+0;let c2:Int:=c23-c13+c12;let c1:Int:=c12-(1:Int);let c25:Prop:=(0:Int)≤c1∧c1.toNat<c8;let c22:Prop:=-c3≤c1∧c1<c3;let c9:Int:=c2+c13-c27;let c5:Nat:=c1.toNat+0;let c18:Nat:=s c4+s c5+1;some (fork (decide (c12>c27)) (ag [-c3≤c23-c13∧c23-c13<c3,-c3≤c2∧c2<c3] (ag [(0:Int)≤c2∧c2.toNat<n,-c3≤c2+c13∧c2+c13<c3,-c3≤c9∧c9<c3,(0:Int)≤c9∧c9.toNat<n,c19,sK≤sK,sK≤sK,sK≤sK,c19] (ag [c22,c25,c5<c8,c19,c24,c4<c8,c22,c25,c5<c8,s c4<c10,s c5<c10,sF<c10,c18<c10,s c5<c10,sF+c18<c10,c24,c4<c8] (ag [c22] (leaf normal ([c16,int i64 (0:Int),c21,c7,c15,c26,int i64 c23,c20,c7,c26,c14,c14,c17,int i64 c1],c11::((2:Nat),ah.mk true true 3 c8 fun j↦rat (bif j==c4 then x c5+fr (k c2.toNat) (k c9.toNat) t*(x c4-x c5)else x j) (bif j==c4 then s c5+(sF+c18)+1 else s j))::c6)))))) (leaf (exit 3) ([c16,int i64 (0:Int),c21,c7,c15,c26,int i64 c23,c20,c7,c26,c14,c14,c17,int i64 c12],c11::((2:Nat),ah.mk true true 3 c8 fun i↦rat (x i) (s i))::c6))):=by kernel_rfl
theorem afu {n p m i r j:Nat} {k a c x:Nat→Rat} {s:Nat→Nat} {t:Rat}:aK T p8 [] 60 nr [part pP [1,1,1]] ⟨aB zH (G7 n k p m a i r j),(3,tP t sK)::lz p m c x s,4⟩=
  let c2:Int:=(↑r:Int)+(1:Int);let c1:AV:=aj 3 p fun i↦rat (a i) 4096;some (ag [-(2:Int)^63≤c2∧c2<(2:Int)^63] (leaf normal ([ptr 1 0 3 0 [],int i64 (0:Int),own 0 3 0 m,c1,aj 3 n fun i↦rat (k i) 4096,int i64 (↑p:Int),int i64 (↑i:Int),own 2 3 0 (p+1),c1,int i64 (↑p:Int),int i64 c2],[((2:Nat),ah.mk true true 3 (p+1) fun i↦rat (x i) (s i)),((0:Nat),ah.mk true true 3 m fun i↦rat (c i) 4096),((1:Nat),ah.mk false true 3 1 fun x↦rat 0 1)]))):=by kernel_rfl
theorem Zb {n p m i r:Nat} {k a c x:Nat→Rat} {s:Nat→Nat}:Ew T p8 [] 60 j4 [part Dc [1,1,1,1,1]] ⟨aB nr (tR n k p m a i r),lz p m c x s,3⟩=
  let c1:Nat:=(↑p:Int).toNat+0;some (ag [(0:Int)≤(↑p:Int)∧(↑p:Int).toNat<p+1,c1<p+1,s c1<2^42,(1:Nat)<2^42,(0:Nat)<1] (ag [(0:Nat)<1] (leaf ret ([rat (x c1+0) (s c1+1+1),int i64 (0:Int)],some (ah.mk true true 3 m fun i↦rat (c i) 4096))))):=by kernel_rfl
theorem V5 {n p m l:Nat} {k c a:Nat→Rat} {i:Int} (hp1:1≤p) (hp6:p≤6) (hn:n<2^40) (hm2:m<2^40) (hi:-2^40<i) (hi2:i<2^40) (cx:Ctx) (hk:Kept [0] cx):
  aq P cx j4.ntmps (au j4) ⟨aN 0 [ls k n,.int .i64 p,.own 0 3 0 m,.int .i64 i,ls a l],[(0,jM m c)],1⟩ (dh cx (zT T j4 [.rat (nj n k p m c i l a) sB,.int .i64 (gQ n k p m l i)] (jM m c))):=by
 obtain⟨b,hb⟩:∃b,b=i.toNat-p:=⟨_,rfl⟩
 obtain⟨x,hx⟩:∃x:Nat→Nat→Rat,x=fun r=>bR k b p a (fun j=>c (b+j)) r:=⟨_,rfl⟩
 have hx0:x 0=fun j=>c (b+j):=by rw[hx];rfl
 have hxS:∀r,x (r+1)=qd k b p r (a r) (x r):=fun r=>by rw[hx];rfl
 have hSF:=Dz
 have hSK:sK=4096:=rfl
 have hSV:sV=268435456:=rfl
 have hrow:∀(l:Nat) (a:Nat→Rat) (w:Bool) (ρ:Nat→Option Nat),ck ρ ⟨true,w,3,l,fun i=>.rat (a i) sK⟩ ⟨true,w,3,l,fun i=>.rat (a i) sK⟩:=fun l a w ρ=>gy rfl fun _ _=>aG rfl
 refine aq.Bc hT uQ hm [1,1,1,1,0,1] (i:=1) (y:=pP) (z:=part Dc [1,1,1,1,1]) (by kernel_rfl) (by kernel_rfl) (by kernel_rfl) Kq.dst hk (f1:=[18,25,36,42,32]) 60 nr 3 (fun r:Nat=>tR n k p m a i.toNat r) (fun r=>lz p m c (x r) fun _=>SB r)
  (fun r=>r≤p∧gQ n k p m l i=0) (fun r=>r=p∧gQ n k p m l i=0) (fun r=>p-r) (Cf T j4 [10,11,2] [.rat (nj n k p m c i l a) sB,.int .i64 (gQ n k p m l i)] (jM m c)) ⟨_,adF,?_⟩ (fun r ⟨hr,he⟩=>?_) (fun r ⟨hr,he⟩=>?_) (fun v s' hv hs'=>hv.fin (L1:=[4,0,1,3,12,66,67,68]) hk hs')
 ·simp only[aa.all,ax,wk,bne_iff_ne,ne_eq,bne_eq_false_iff_eq,Int.toNat_natCast,cond_false,decide_eq_true_eq,decide_eq_false_iff_not,zq]
  have ret:∀{e:Int} {us:List AV},gQ n k p m l i=e→e≠0→bh us=[]→Cf T j4 [10,11,2] [.rat (nj n k p m c i l a) sB,.int .i64 (gQ n k p m l i)] (jM m c) ([ptr 1 0 3 0 [],int i64 e,own 0 3 0 m]++us,[((0:Nat),jM m c),((1:Nat),ah.mk false true 3 1 fun j↦if(j==0)=true then aU (agg (kids (.rat 0 1)))else .rat 0 1)]):=fun {e us} h1 h2 h3=>
   ⟨[_,_,_],us,2,_,rfl,rfl,h3,afv,rfl,⟨⟨by omega,fun i _=>rfl⟩,⟨by omega,fun i _=>AN rfl rfl⟩,trivial⟩,by omega,Nat.zero_lt_one,rfl,rfl,QG h1 h2,⟨_,rfl,hrow _ _ _⟩⟩
  (repeat' with_reducible first|refine And.intro ?_ ?_|intro _)
  all_goals first|omega|exact cU (Nat.le_refl _)|exact absurd ‹true=false› (by decide)|assumption|skip
  all_goals first|exact ret (K6 (.inl ‹_›)) (by decide) rfl|exact ret (K6 (.inr (by omega))) (by decide) rfl|skip
  all_goals first|exact ret (FG (by omega) (by omega) (.inl (by omega))) (by decide) rfl|exact ret (FG (by omega) (by omega) (.inr (.inl (by omega)))) (by decide) rfl|skip
  all_goals have e1:(i+1).toNat=i.toNat+1:=by omega
  ·exact ret (FG (by omega) (by omega) (.inr (.inr (by rw[←e1];assumption)))) (by decide) rfl
  ·rename_i h1
   rw[e1]at h1
   have hlp:l=p:=by omega
   subst hlp
   refine⟨0,⟨by omega,ad9 (by omega) rfl (by rintro(h|h|h)<;>first|omega|exact h1 h)⟩,[(0,0),(1,1),(2,163841)],rfl,?_,rfl,aW rfl rfl (by omega) (fun j hj=>?_) (aF rfl rfl (aD rfl rfl) (aW rfl rfl rfl (fun j hj=>aD rfl rfl) trivial))⟩
   ·rw[show((l:Int)+1).toNat=l+1 by omega]
    show _=[_,_,_,_,_,_,AV.int i64 ((i.toNat:Nat):Int),_,_,_,_]
    rw[show((i.toNat:Nat):Int)=i by omega]
    rfl
   ·rw[if_pos (by omega),hx0,show(i-(l:Int)).toNat=b by omega,Nat.sub_zero,Nat.zero_add,Nat.add_comm j b]
    exact .inr ⟨rfl,bp rfl (show sK≤SB 0 by decide)⟩
 ·have hin:(m:Int)=(n:Int)-p-1∧p≤i.toNat∧i.toNat<m∧i.toNat=b+p∧l=p:=by
   unfold gQ at he
   split at he
   ·omega
   ·split at he
    ·omega
    ·omega
  obtain⟨i1,i2,i3,i4,i5⟩:=hin
  subst i5
  have hr4:∀{s:Nat→Nat} {y:Nat→Rat},kr 3 [(0,0),(1,1),(2,2)] [((2:Nat),ah.mk true true 3 (l+1) fun i↦rat (y i) (s i)),((0:Nat),jM m c),((1:Nat),ah.mk false true 3 1 fun x↦rat 0 1)] (lz l m c y s):=aW rfl rfl rfl (fun j hj=>aD rfl rfl) (aF rfl rfl (aD rfl rfl) (aW rfl rfl rfl (fun j hj=>aD rfl rfl) trivial))
  refine aq.xj hT uQ hm (y:=pP) (x1:=wZ) (zb:=part pP [1,1,1]) [1,1,0] (j:=2) (by kernel_rfl) (by kernel_rfl) (by kernel_rfl) (by kernel_rfl) hk (f1:=[69]) 60 nr 3 (fun _:Unit=>tR n k l m a i.toNat r) (fun _=>lz l m c (x r) fun _=>SB r) (fun _=>r<l) ⟨_,aga,?_⟩ (fun _ hr'=>?_)
  ·simp only[aa.all,ax,decide_eq_true_eq,decide_eq_false_iff_not]
   have re:∀{s:Nat→Nat} {y:Nat→Rat},eH [0] ([ptr 1 0 3 0 [],int i64 (0:Int),own 0 3 0 m,ls a l,aj 3 n fun i↦rat (k i) sK,int i64 l,int i64 (i.toNat:Nat),own 2 3 0 (l+1),ls a l,int i64 l,int i64 (r:Nat)],[((2:Nat),ah.mk true true 3 (l+1) fun i↦rat (y i) (s i)),((0:Nat),jM m c),((1:Nat),ah.mk false true 3 1 fun x↦rat 0 1)]) (tR n k l m a i.toNat r) (lz l m c y s) 3:=
    ⟨[(0,0),(1,1),(2,2)],rfl,rfl,rfl,hr4⟩
   exact⟨fun h1=>⟨(),by omega,re⟩,fun h1 s' hs'=>⟨rfl,r,⟨by omega,he⟩,re.le hs' hk⟩⟩
  have h1:=sx (d:=r)
  have h2:=vH (d:=r) (by omega)
  have h3:=Cz (d:=r)
  refine aq.By hT uQ hm (x:=wZ) [1,1] (i:=3) (y:=part wZ [1,1,0,0]) (by kernel_rfl) (by kernel_rfl) (by kernel_rfl) hk (f1:=[]) (f2:=[76]) 60 zH 4 (fun j:Nat=>G7 n k l m a i.toNat r j) (fun j=>(3,tP (a r) sK)::lz l m c (kO k b l r (a r) (x r) j) (lR r j)) (fun j=>r≤j∧j≤l) (fun j=>j=r) (fun j=>j) (fun _=>False) ⟨_,RR,?_⟩ (fun j hj=>⟨_,VI,?_⟩) (fun j s' hj hle=>?_) (fun _ _ h=>h.elim)
  ·simp only[aa.all,ax,Int.toNat_natCast]
   refine⟨⟨by omega,by omega⟩,l,by omega,[(0,0),(1,1),(2,2),(3,12291)],rfl,rfl,rfl,aF rfl rfl (aD rfl rfl) (aW rfl rfl rfl (fun j hj=>aD rfl ?_) (aF rfl rfl (aD rfl rfl) (aW rfl rfl rfl (fun j hj=>aD rfl rfl) trivial)))⟩
   unfold kO lR
   rw[if_pos (by omega),if_pos (by omega)]
  ·obtain⟨hj1,hj2⟩:=hj
   have e1:((i.toNat:Nat):Int)-(l:Int)+(j:Int)=((b+j:Nat):Int):=by omega
   have e2:((b+j:Nat):Int)+(l:Int)-(r:Int)=((b+j+(l-r):Nat):Int):=by omega
   have u1:∀{j':Nat},j'≤j→lR r j j'=SB r:=fun h=>by unfold lR;rw[if_pos h]
   simp only[aa.all,ax,decide_eq_true_eq,decide_eq_false_iff_not,e1,e2,Int.toNat_natCast,Nat.add_zero]
   refine⟨fun h4=>?_,fun h4=>⟨rfl,j,by omega,[(0,0),(1,1),(2,2),(3,3)],rfl,rfl,rfl,aF rfl rfl (aD rfl rfl) (aW rfl rfl rfl (fun j hj=>aD rfl rfl) (aF rfl rfl (aD rfl rfl) (aW rfl rfl rfl (fun j hj=>aD rfl rfl) trivial)))⟩⟩
   have e3:((j:Int)-1).toNat=j-1:=by omega
   have u2:=u1 (j':=j) (Nat.le_refl _)
   have u3:=u1 (j':=j-1) (by omega)
   simp only[e3,u2,u3]
   (repeat' with_reducible refine And.intro ?_ ?_)
   all_goals first|omega|skip
   exact⟨j-1,by omega,by dsimp only;omega,[(0,0),(1,1),(2,2),(3,3)],rfl,by rw[show(j:Int)-1=((j-1:Nat):Int) by omega];rfl,rfl,aF rfl rfl (aD rfl rfl) (aW rfl rfl rfl (fun q hq=>Tx (by omega) (by omega)) (aF rfl rfl (aD rfl rfl) (aW rfl rfl rfl (fun j hj=>aD rfl rfl) trivial)))⟩
  ·subst hj
   show aq P cx j4.ntmps (part pP [1,1,1]) s' _
   refine aq.j0 hle (aq.bk hT uQ hm 60 nr afu (by kernel_rfl) ?_)
   simp only[aa.all,ax]
   refine⟨by omega,fun s' hs'=>⟨j+1,⟨by omega,he⟩,by dsimp only;omega,eH.le ⟨[(0,0),(1,1),(2,2)],rfl,rfl,rfl,aW rfl rfl rfl (fun q hq=>?_) (aF rfl rfl (aD rfl rfl) (aW rfl rfl rfl (fun j hj=>aD rfl rfl) trivial))⟩ hs' hk⟩⟩
   refine .inr ⟨rfl,bp (by rw[Zc,hxS]) ?_⟩
   show lR j j q≤SB (j+1)
   unfold lR
   split<;>omega
 ·have hlp:l=p:=by
   unfold gQ at he
   split at he
   ·omega
   ·omega
  subst hlp
  subst hr
  refine aq.ni ((aE.YQ hT uQ hm 60 Zb (by kernel_rfl) ?_).mono fun _ _ h=>.inl h)
  have h2:=vH (d:=r) hp6
  simp only[aa.all,ax,Int.toNat_natCast,Nat.add_zero]
  refine⟨⟨by omega,by omega,by omega,by omega,by omega⟩,by omega,rfl,rfl,⟨bp ?_ (by show SB r+1+1≤536870912;omega),bt he.symm,trivial⟩,⟨_,rfl,hrow _ _ _⟩⟩
  unfold nj
  rw[if_pos he,←hb,hx,Rat.add_zero]
def tA (f:Nat→AV) (n s:Nat):Prop:=∀i,i<n→keys (f i)=[]∧bA (f i) (.rat (aT (f i)) s)
theorem adl {k:Nat→Rat} {n s s':Nat} (h:s≤s'):tA (fun i=>.rat (k i) s) n s':=fun _ _=>⟨rfl,eW h⟩
theorem tA.obj {f:Nat→AV} {n s:Nat} {w:Bool} (h:tA f n s) {m:Nat} (hm:n=m) (ρ:Nat→Option Nat):ck ρ ⟨true,w,3,n,f⟩ ⟨true,w,3,m,fun i=>.rat (aT (f i)) s⟩:=⟨rfl,rfl,rfl,hm.symm,fun i hi=>lG (h i hi).1 (h i hi).2⟩
def F3:Spec:=fun _ args pre=>match args,pre with
 |[.aj 3 n kf,.int .i64 p,.own b 3 0 m,.int .i64 i,.aj 3 l af],[(b',⟨true,true,3,mb,fb⟩)]=>match b'==b with
  |true=>some ⟨Kb n (fun i=>aT (kf i)) p.toNat m (fun i=>aT (fb i)) i l (fun i=>aT (af i)),[(b,jM m fun i=>aT (fb i))],
   [mb=m,bP kf n sK,bP af l sK,tA fb m sK,1≤p,p≤6,n<2^40,m<2^40,-2^40<i,i<2^40]⟩
  |false=>none
 |_,_=>none
theorem SS:∀K args pre r,F3 K args pre=some r→aA P BJ K args pre r:=by
 intro K args pre r h
 unfold F3 at h
 split at h
 ·rename_i n kf p b m i l af b' mb fb
  split at h
  ·rename_i hc
   have hc:=eq_of_beq hc
   subst hc
   simp only[Option.some.injEq]at h
   subst h
   intro need
   obtain⟨rfl,n1,n2,n3,n4,n5,n6,n7,n8,n9⟩:=need
   refine Y7 hT Kq (args:=[.aj 3 n kf,.int .i64 p,.own b' 3 0 mb,.int .i64 i,.aj 3 l af]) (us:=[.rat (nj n (fun i=>aT (kf i)) p.toNat mb (fun i=>aT (fb i)) i l (fun i=>aT (af i))) sB,.int .i64 (gQ n (fun i=>aT (kf i)) p.toNat mb l i)]) (args0:=[ls (fun i=>aT (kf i)) n,.int .i64 p,.own 0 3 0 mb,.int .i64 i,ls (fun i=>aT (af i)) l]) (of_decide_eq_true (by kernel_rfl))
    ⟨⟨rfl,lG rfl (Fe n1)⟩,⟨rfl,aG rfl⟩,⟨rfl,bY rfl rfl rfl⟩,⟨rfl,aG rfl⟩,⟨rfl,lG rfl (Fe n2)⟩,trivial⟩ (fun _ ρ=>n3.obj rfl ρ) (fun _ c hk=>?_) K ⟨rfl,n1,n2,n3,n4,n5,n6,n7,n8,n9⟩
   have:=V5 (n:=n) (p:=p.toNat) (m:=mb) (l:=l) (k:=fun i=>aT (kf i)) (c:=fun i=>aT (fb i)) (a:=fun i=>aT (af i)) (i:=i) (by omega) (by omega) n6 n7 n8 n9 c hk
   rw[Int.toNat_of_nonneg (by omega)]at this
   exact this
  ·simp at h
 ·simp at h
end Go.Am.B

/- spline.piece, Spline.polar. -/
namespace Go.Am.B
open Go Go.Am.N AV aa ak IntKind
theorem Ya:aO P AK u5 (au u5):=aP UP (by kernel_rfl) (by kernel_rfl) (by kernel_rfl)
theorem N5:aO P xM mz (au mz):=aP YV (by kernel_rfl) (by kernel_rfl) (by kernel_rfl)
def r7 (k:Nat→Rat) (n:Nat):Nat→Nat→Nat
 |0,i=>i
 |f+1,i=>if i+1<n∧k (i+1)≤k i then r7 k n f (i+1)else i
def gE (k:Nat→Rat) (n i:Nat):Nat:=r7 k n (n-i) i
abbrev xl:List Nat:=[0,1,4]
abbrev DL (n i:Nat) (k:Nat→Rat):List AV:=[ls k n,.int .i64 i,.int .i64 0]
noncomputable abbrev yJ:Code:=au u5
def nP (h:Pl):Nat→Rat
 |0=>h.n.x
 |1=>h.n.y
 |2=>h.n.z
 |_=>h.d
def mX (g:Nat→Rat):Nat→Pl
 |0=>⟨⟨0,0,0⟩,0⟩
 |1=>⟨⟨g 0,0,0⟩,0⟩
 |2=>⟨⟨g 0,g 1,0⟩,0⟩
 |3=>⟨⟨g 0,g 1,g 2⟩,0⟩
 |_=>⟨⟨g 0,g 1,g 2⟩,g 3⟩
def iI (c:Cu) (i:Int) (l:Nat) (g:Nat→Rat) (a:Nat):Rat:=nj c.n c.k c.p.toNat c.m (fun j=>nP (c.f j) a) i l g
def uW (c:Cu) (i:Int) (l:Nat) (g:Nat→Rat):Pl:=⟨⟨iI c i l g 0,iI c i l g 1,iI c i l g 2⟩,iI c i l g 3⟩
def mS (c:Cu) (a:Nat) (x:Nat→Rat) (j q:Nat):Rat:=if q<j∨c.m≤q then nP (c.f q) a else x q
theorem aaU {c:Cu} {a:Nat} {x:Nat→Rat}:mS c a x c.m=fun q=>nP (c.f q) a:=by
 funext q;unfold mS;rw[if_pos (by omega)]
noncomputable def nN:aR:=nG::(BJ,F3)::eU
abbrev gR:List Nat:=[1,2,3,6,7,8,16]
abbrev jL (c:Cu) (i:Int) (l:Nat) (g:Nat→Rat) (a:Nat):List AV:=[.int .i64 i,ls g l,.ptr 0 0 3 0 [],.ptr 1 0 12 0 [],.ptr 2 0 12 0 [],.own 3 3 0 c.m,.int .i64 a]
abbrev zu:List Nat:=[1,2,3,6,7,8,16,9,20,21,22]
abbrev Bf (c:Cu) (i:Int) (l:Nat) (g:Nat→Rat) (a j:Nat):List AV:=[.int .i64 i,ls g l,.ptr 0 0 3 0 [],.ptr 1 0 12 0 [],.ptr 2 0 12 0 [],.own 3 3 0 c.m,.int .i64 a,.int .i64 a,pJ c.f c.m sK,.int .i64 c.m,.int .i64 j]
abbrev iD (c:Cu) (x:Nat→Rat) (h:Pl):aC:=[(3,jM c.m x),(2,kS h sB),(1,kS ⟨⟨0,0,0⟩,0⟩ 1),(0,nD c sK)]
noncomputable abbrev DA:Code:=au mz
noncomputable abbrev mo:Code:=part DA [1,1,1,0,1,0,0]
noncomputable abbrev nh:Code:=part mo [1,1,0,0]
theorem aiv {n i:Nat} {k:Nat→Rat}:aK T (nG::eU) [] 60 xl (before yJ [1,0]) ⟨aN 0 [ls k n,.int .i64 i],[],0⟩=
  some (leaf normal ([aj 3 n fun i↦rat (k i) 4096,int i64 (↑i:Int),int i64 (0:Int)],[])):=by kernel_rfl
theorem afP {n i:Nat} {k:Nat→Rat}:aK T (nG::eU) [10,22] 60 xl [part yJ [1,0,0,0]] ⟨aB xl (DL n i k),[],0⟩=
  let c9:Prop:=sK<2^42;let c8:Int:=(↑i:Int);let c3:AV:=aj 3 n fun i↦rat (k i) 4096;let c4:aa (List AV×aC):=leaf (exit 0) ([c3,int i64 c8,int i64 (0:Int)],[]);let c1:Int:=c8+(1:Int);let c7:Int:=dZ (k c8.toNat) (k c1.toNat);let c6:Bool:=decide (c1<(↑n:Int));let c2:Prop:=-(2:Int)^63≤c1∧c1<(2:Int)^63;let c5:aa (List AV×aC):=ag [c2] (leaf normal ([c3,int i64 c1,int i64 (0:Int)],[]));some (fork c6 (ag [c2,c6=true,(0:Int)≤c8∧c8.toNat<n,c2,(0:Int)≤c1∧c1.toNat<n,c9,c9] (fork (bif true then decide (c7≥(0:Int))else false) c5 c4)) (ag [c2,c6=false] (fork false c5 c4))):=by kernel_rfl
theorem aaG {n i:Nat} {k:Nat→Rat}:bW T (nG::eU) [] 60 u5 [part yJ [1,1]] ⟨aB xl (DL n i k),[],0⟩=
  some (leaf ret [int i64 (↑i:Int)]):=by kernel_rfl
theorem ado {c:Cu} {i:Int} {l:Nat} {g:Nat→Rat}:aK T nN [] 60 gR (before DA [1,1,1,0,1]) ⟨aN 0 [fE c sK sK,.int .i64 i,ls g l],[],0⟩=
  let c4:Nat:=(aU (fE c sK sK)).size;let c3:Int:=(↑c.m:Int);let c1:AV:=rat 0 1;let c2:ah:=ah.mk false true 12 1 fun x↦agg [c1,c1,c1,c1];some (ag [(0:Nat)<1,(0:Int)≤c3∧c3≤c3∧c3≤(2:Int)^47∧c3*(↑(56:Nat):Int)≤(2:Int)^47] (leaf normal ([int i64 i,aj 3 l fun i↦rat (g i) 4096,ptr 0 0 c4 0 [],ptr 4096 0 12 0 [],ptr 8192 0 12 0 [],own 24576 3 0 c3.toNat,int i64 (0:Int)],[((24576:Nat),ah.mk true true 3 c3.toNat fun x↦c1),((8192:Nat),c2),((4096:Nat),c2),((0:Nat),ah.mk false true c4 1 fun x↦agg [int i64 c.p,aj 3 c.n fun i↦rat (c.k i) 4096,aj 12 c.m fun i↦agg [rat (c.f i).n.x 4096,rat (c.f i).n.y 4096,rat (c.f i).n.z 4096,rat (c.f i).d 4096]])]))):=by kernel_rfl
theorem acn {c:Cu} {i:Int} {l a:Nat} {g x:Nat→Rat} {h:Pl}:aK T nN [17] 60 gR (before mo [1,1,0]) ⟨aB gR (jL c i l g a),iD c x h,4⟩=
  let c2:AV:=rat 0 1;let c1:List AV×aC:=([int i64 i,aj 3 l fun i↦rat (g i) 4096,ptr 0 0 3 0 [],ptr 1 0 12 0 [],ptr 2 0 12 0 [],own 3 3 0 c.m,int i64 (↑a:Int)],[((3:Nat),ah.mk true true 3 c.m fun i↦rat (x i) 4096),((2:Nat),ah.mk false true 12 1 fun x↦agg [rat h.n.x 536870912,rat h.n.y 536870912,rat h.n.z 536870912,rat h.d 536870912]),((1:Nat),ah.mk false true 12 1 fun x↦agg [c2,c2,c2,c2]),((0:Nat),ah.mk false true 3 1 fun x↦agg [int i64 c.p,aj 3 c.n fun i↦rat (c.k i) 4096,aj 12 c.m fun i↦agg [rat (c.f i).n.x 4096,rat (c.f i).n.y 4096,rat (c.f i).n.z 4096,rat (c.f i).d 4096]])]);some (fork (decide ((↑a:Int)<(4:Int))) (leaf normal c1) (leaf (exit 0) c1)):=by kernel_rfl
theorem ah9 {c:Cu} {i:Int} {l a:Nat} {g x:Nat→Rat} {h:Pl}:aK T nN [] 60 zu (before nh [1,0,1]) ⟨aB gR (jL c i l g a),iD c x h,4⟩=
  let c2:AV:=rat 0 1;let c1:AV:=aj 12 c.m fun i↦agg [rat (c.f i).n.x 4096,rat (c.f i).n.y 4096,rat (c.f i).n.z 4096,rat (c.f i).d 4096];some (ag [(0:Nat)<1] (leaf normal ([int i64 i,aj 3 l fun i↦rat (g i) 4096,ptr 0 0 3 0 [],ptr 1 0 12 0 [],ptr 2 0 12 0 [],own 3 3 0 c.m,int i64 (↑a:Int),int i64 (↑a:Int),c1,int i64 (↑c.m:Int),int i64 (0:Int)],[((3:Nat),ah.mk true true 3 c.m fun i↦rat (x i) 4096),((2:Nat),ah.mk false true 12 1 fun x↦agg [rat h.n.x 536870912,rat h.n.y 536870912,rat h.n.z 536870912,rat h.d 536870912]),((1:Nat),ah.mk false true 12 1 fun x↦agg [c2,c2,c2,c2]),((0:Nat),ah.mk false true 3 1 fun x↦agg [int i64 c.p,aj 3 c.n fun i↦rat (c.k i) 4096,c1])]))):=by kernel_rfl
theorem Ve {c:Cu} {i:Int} {l a:Nat} {g x:Nat→Rat} {h:Pl}:aK T nN [] 60 gR [part mo [1,1,1]] ⟨aB gR (jL c i l g a),iD c x h,4⟩=
  let c2:Int:=(↑a:Int)+(1:Int);let c1:AV:=rat 0 1;some (ag [-(2:Int)^63≤c2∧c2<(2:Int)^63] (leaf normal ([int i64 i,aj 3 l fun i↦rat (g i) 4096,ptr 0 0 3 0 [],ptr 1 0 12 0 [],ptr 2 0 12 0 [],own 3 3 0 c.m,int i64 c2],[((3:Nat),ah.mk true true 3 c.m fun i↦rat (x i) 4096),((2:Nat),ah.mk false true 12 1 fun x↦agg [rat h.n.x 536870912,rat h.n.y 536870912,rat h.n.z 536870912,rat h.d 536870912]),((1:Nat),ah.mk false true 12 1 fun x↦agg [c1,c1,c1,c1]),((0:Nat),ah.mk false true 3 1 fun x↦agg [int i64 c.p,aj 3 c.n fun i↦rat (c.k i) 4096,aj 12 c.m fun i↦agg [rat (c.f i).n.x 4096,rat (c.f i).n.y 4096,rat (c.f i).n.z 4096,rat (c.f i).d 4096]])]))):=by kernel_rfl
theorem aed {c:Cu} {i:Int} {l a:Nat} {g x:Nat→Rat} {h:Pl}:bW T nN [] 60 mz [part DA [1,1,1,1]] ⟨aB gR (jL c i l g a),iD c x h,4⟩=
  let c1:Prop:=0<1;some (ag [c1,c1] (ag [c1] (leaf ret [agg [rat h.n.x 536870912,rat h.n.y 536870912,rat h.n.z 536870912,rat h.d 536870912]]))):=by kernel_rfl
theorem VN {k:Nat→Rat} {n i:Nat} (h:i+1<n) (h2:k (i+1)≤k i):gE k n i=gE k n (i+1):=by
 unfold gE;rw[show n-i=(n-(i+1))+1 by omega,r7,if_pos ⟨h,h2⟩]
theorem N6 {k:Nat→Rat} {n i:Nat} (h:¬(i+1<n∧k (i+1)≤k i)):gE k n i=i:=by
 unfold gE
 cases n-i with
 |zero=>rfl
 |succ f=>rw[r7,if_neg h]
theorem RS {n i:Nat} {k:Nat→Rat} (hi:i≤n) (hn:n<2^40) (K:Nat):aA P AK K [ls k n,.int .i64 i] [] (aI (.int .i64 (gE k n i)) []):=by
 refine fK (r:=aI (.int .i64 (gE k n i)) []) hT (cC fC) hm Ya rfl (of_decide_eq_true (by kernel_rfl)) rfl [1,0] (i:=0) (y:=part yJ [1,0,0,0]) (z:=part yJ [1,1]) (by kernel_rfl) (by kernel_rfl) (by kernel_rfl) (f1:=[]) (f2:=[10,22]) (f3:=[]) 60 xl 0
  (fun j:Nat=>DL n j k) (fun _=>[]) (fun j=>j≤n∧gE k n j=gE k n i) (fun j=>j=gE k n i) (fun j=>n-j) (fun _=>⟨⟨_,aiv,?_⟩,fun j hj=>⟨_,afP,?_⟩,fun j hj=>⟨_,aaG,?_⟩⟩) K []
 ·simp only[aa.all,ax]
  exact⟨i,⟨hi,rfl⟩,[],rfl,rfl,rfl,trivial⟩
 ·have e1:((j:Int)+1).toNat=j+1:=by omega
  simp only[aa.all,ax,decide_eq_true_eq,decide_eq_false_iff_not,Int.toNat_natCast,cond_true,e1,zq]
  refine⟨fun h1=>⟨⟨by omega,by omega,by omega,by omega,by omega,by decide,by decide⟩,fun h2=>⟨by omega,j+1,⟨by omega,(VN (by omega) h2).symm.trans hj.2⟩,by dsimp only;omega,[],rfl,rfl,rfl,trivial⟩,fun h2=>⟨rfl,j,?_,[],rfl,rfl,rfl,trivial⟩⟩,fun h1=>⟨⟨by omega,by omega⟩,fun h=>absurd h (by decide),fun _=>⟨rfl,j,?_,[],rfl,rfl,rfl,trivial⟩⟩⟩
  ·exact(N6 fun h=>h2 h.2).symm.trans hj.2
  ·exact(N6 fun h=>by omega).symm.trans hj.2
 ·subst hj
  simp only[aa.all,ax]
  exact .refl _
def MD:Spec:=cJ (kC (kL sK) (kC kI kN)) (fun a=>.int .i64 (gE a.1.2 a.1.1 a.2.1.toNat)) fun a=>[0≤a.2.1,a.2.1≤a.1.1,a.1.1<2^40]
theorem ac2:∀K args pre r,MD K args pre=some r→aA P AK K args pre r:=cz fun⟨⟨n,k⟩,i,_⟩ K hn=>by
 obtain⟨h1,h2,h3⟩:=hn
 have:=RS (n:=n) (i:=i.toNat) (k:=k) (by dsimp only at*;omega) h3 K
 rw[Int.toNat_of_nonneg h1]at this
 exact this
theorem sO:aX P nN:=cC (aJ SS fC)
def yT (c:Cu):Nat→Nat→Rat
 |0=>fun _=>0
 |a+1=>fun q=>nP (c.f q) a
theorem Xw {rl:List (Nat×Nat)} {c:Cu} {a:Nat} {x:Nat→Rat} {q:Nat} (hq:q<c.m):fc rl (.rat (x q) sK) (.rat (mS c a x 0 q) sK):=aD rfl (by unfold mS;rw[if_neg (by omega)])
theorem QA {rl:List (Nat×Nat)} {c:Cu} {a j:Nat} {x:Nat→Rat} {q:Nat} {v:Rat} (hq:q<c.m) (hv:v=nP (c.f j) a):fc rl (.rat (bif q==j then v else mS c a x j q) (bif q==j then sK else sK)) (.rat (mS c a x (j+1) q) sK):=by
 refine aD rfl ?_
 rw[Bool.cond_self]
 congr 1
 by_cases h:q=j
 ·subst h
  rw[beq_self_eq_true,cond_true,hv];unfold mS;rw[if_pos (by omega)]
 ·rw[beq_eq_false_iff_ne.2 h,cond_false];unfold mS
  by_cases h2:q<j
  ·rw[if_pos (.inl h2),if_pos (.inl (by omega))]
  ·rw[if_neg (by omega),if_neg (by omega)]
theorem acu {x:Nat→Rat} {m:Nat}:tA (fun i=>.rat (x i) sK) m sK:=adl (Nat.le_refl _)
theorem four {a:Nat} (ha:a<4):a=0∨a=1∨a=2∨a=3:=by omega
theorem RN {c:Cu} {i:Int} {l a j:Nat} {g x:Nat→Rat} {h:Pl} (ha:a<4):aK T nN [23] 60 zu [part nh [1,0,1,0,0]] ⟨aB zu (Bf c i l g a j),iD c x h,4⟩=
  some (fork (decide ((j:Int)<c.m)) (ag [(0:Int)≤j∧(j:Int).toNat<c.m,0<1] (ag [(0:Int)≤a∧(a:Int)<(4:Nat),0<1,(0:Int)≤j∧(j:Int).toNat<c.m,(j:Int).toNat+0<c.m] (ag [-(2:Int)^63≤(j:Int)+1∧(j:Int)+1<(2:Int)^63]
   (leaf normal ([.int .i64 i,ls g l,.ptr 0 0 3 0 [],.ptr 1 0 12 0 [],.ptr 2 0 12 0 [],.own 3 3 0 c.m,.int .i64 a,.int .i64 a,pJ c.f c.m sK,.int .i64 c.m,.int .i64 ((j:Int)+1)],(3,⟨true,true,3,c.m,fun q=>.rat (bif q==(j:Int).toNat+0 then nP (c.f (j:Int).toNat) a else x q) (bif q==(j:Int).toNat+0 then sK else sK)⟩)::[(2,kS h sB),(1,kS ⟨⟨0,0,0⟩,0⟩ 1),(0,nD c sK)]))))) (leaf (exit 2) (Bf c i l g a j,iD c x h))):=by
 rcases four ha with rfl|rfl|rfl|rfl<;>kernel_rfl
theorem Rj {c:Cu} {i:Int} {l a j:Nat} {g x:Nat→Rat} {h:Pl} (ha:a<4):aK T nN [] 60 gR [part nh [1,1]] ⟨aB zu (Bf c i l g a j),iD c x h,4⟩=
  some (ag [0<1,0<1,c.m=c.m,bP (fun i=>.rat (c.k i) sK) c.n sK,bP (fun i=>.rat (g i) sK) l sK,tA (fun i=>.rat (x i) sK) c.m sK,(1:Int)≤c.p,c.p≤(6:Int),c.n<2^40,c.m<2^40,-(2:Int)^40<i,i<(2:Int)^40,(0:Int)≤a∧(a:Int)<(4:Nat),0<1]
   (leaf normal (jL c i l g a,[(3,jM c.m x),(2,⟨false,true,12,1,fun j=>if(j==0)=true then .agg ((dw h sB).kids.set a (.rat (nj c.n c.k c.p.toNat c.m x i l g) sB))else dw h sB⟩),(1,kS ⟨⟨0,0,0⟩,0⟩ 1),(0,nD c sK)]))):=by
 rcases four ha with rfl|rfl|rfl|rfl<;>kernel_rfl
theorem air {rl:List (Nat×Nat)} {G:Nat→Rat} {a:Nat} (ha:a<4):fc rl (.agg ((dw (mX G a) sB).kids.set a (.rat (G a) sB))) (dw (mX G (a+1)) sB):=by
 rcases four ha with rfl|rfl|rfl|rfl<;>exact aD rfl rfl
theorem ajt {c:Cu} {i:Int} {l a:Nat} {g x:Nat→Rat} {cx:Ctx} {Q:ak→aH→Prop} (ha:a<4) (hk:Kept [] cx) (hp1:1≤c.p) (hp6:c.p≤6) (hn:c.n<2^40) (hm2:c.m<2^40) (hi:-2^40<i) (hi2:i<2^40)
  (hQ:∀s',(∃ρ,Le cx ρ s' ⟨aB gR (jL c i l g a),iD c (yT c (a+1)) (mX (iI c i l g) (a+1)),4⟩)→aq P cx mz.ntmps (part mo [1,1,1]) s' Q):
  aq P cx mz.ntmps nh ⟨aB gR (jL c i l g a),iD c x (mX (iI c i l g) a),4⟩ (inBlock 1 (cV (fun s'=>aq P cx mz.ntmps (part mo [1,1,1]) s' Q) Q)):=by
 refine aq.By hT sO hm (x:=nh) [1,0,1] (i:=2) (y:=part nh [1,0,1,0,0]) (by kernel_rfl) (by kernel_rfl) (by kernel_rfl) hk (f1:=[]) (f2:=[23]) 60 zu 4 (fun j:Nat=>Bf c i l g a j) (fun j=>iD c (mS c a x j) (mX (iI c i l g) a)) (fun j=>j≤c.m) (fun j=>j=c.m) (fun j=>c.m-j) (fun _=>False) ⟨_,ah9,?_⟩ (fun j hj=>⟨_,RN ha,?_⟩) (fun j s' hj hle=>?_) (fun _ _ h=>h.elim)
 ·simp only[aa.all,ax]
  exact⟨by omega,0,Nat.zero_le _,[(0,0),(1,1),(2,2),(3,3)],rfl,rfl,rfl,aW rfl rfl rfl (fun q hq=>Xw hq) (aF rfl rfl (aD rfl rfl) (aF rfl rfl (aD rfl rfl) (aF rfl rfl (aD rfl rfl) trivial)))⟩
 ·simp only[aa.all,ax,decide_eq_true_eq,decide_eq_false_iff_not,Int.toNat_natCast,Nat.add_zero]
  exact⟨fun h1=>⟨⟨by omega,by omega⟩,⟨by omega,by omega,by omega,by omega⟩,by omega,j+1,by omega,by dsimp only;omega,[(0,0),(1,1),(2,2),(3,3)],rfl,rfl,rfl,aW rfl rfl rfl (fun q hq=>QA hq rfl) (aF rfl rfl (aD rfl rfl) (aF rfl rfl (aD rfl rfl) (aF rfl rfl (aD rfl rfl) trivial)))⟩,
   fun h1=>⟨rfl,j,by omega,[(0,0),(1,1),(2,2),(3,3)],rfl,rfl,rfl,aW rfl rfl rfl (fun q hq=>aD rfl rfl) (aF rfl rfl (aD rfl rfl) (aF rfl rfl (aD rfl rfl) (aF rfl rfl (aD rfl rfl) trivial)))⟩⟩
 ·subst hj
  simp only[aaU]at hle
  rw[show behind nh [1,0,1]=[part nh [1,1]]from by kernel_rfl]
  refine aE.weak rfl hle (aE.bk hT sO hm 60 gR (Rj ha) (by kernel_rfl) ?_)
  simp only[aa.all,ax]
  refine⟨⟨by omega,by omega,trivial,cU (Nat.le_refl _),cU (Nat.le_refl _),acu,hp1,hp6,hn,hm2,hi,hi2,by omega,by omega⟩,fun s'' hs''=>hQ s'' (eH.le ⟨[(0,0),(1,1),(2,2),(3,3)],rfl,rfl,rfl,aW rfl rfl rfl (fun q hq=>aD rfl rfl) (aF rfl rfl (air ha) (aF rfl rfl (aD rfl rfl) (aF rfl rfl (aD rfl rfl) trivial)))⟩ hs'' hk)⟩
theorem abV {c:Cu} {i:Int} {l:Nat} {g:Nat→Rat} (hp1:1≤c.p) (hp6:c.p≤6) (hn:c.n<2^40) (hm2:c.m<2^40) (hi:-2^40<i) (hi2:i<2^40) (K:Nat):aA P xM K [fE c sK sK,.int .i64 i,ls g l] [] (aI (dw (uW c i l g) sB) []):=by
 refine gz (r:=aI (dw (uW c i l g) sB) []) hT N5 rfl (of_decide_eq_true (by kernel_rfl)) rfl (fun _ cx h00=>?_) K []
 have hk:=nW h00
 refine aq.Bc hT sO hm [1,1,1,0,1] (i:=0) (y:=mo) (z:=part DA [1,1,1,1]) (by kernel_rfl) (by kernel_rfl) (by kernel_rfl) N5.dst hk (f1:=[]) 60 gR 4 (fun a:Nat=>jL c i l g a) (fun a=>iD c (yT c a) (mX (iI c i l g) a)) (fun a=>a≤4) (fun a=>a=4) (fun a=>4-a) (fun _=>False) ⟨_,ado,?_⟩ (fun a ha=>?_) (fun a ha=>?_) (fun _ _ h=>h.elim)
 ·simp only[aa.all,ax,Int.toNat_natCast]
  exact⟨⟨by omega,by omega⟩,0,by omega,[(0,0),(1,4096),(2,8192),(3,24576)],rfl,rfl,rfl,aW rfl rfl rfl (fun q hq=>.inr ⟨rfl,bp rfl (by decide)⟩) (aF rfl rfl (.inr ⟨rfl,bQ (show eo [.rat _ _,.rat _ _,.rat _ _,.rat _ _] [.rat _ _,.rat _ _,.rat _ _,.rat _ _]from⟨bp rfl (by decide),bp rfl (by decide),bp rfl (by decide),bp rfl (by decide),trivial⟩)⟩) (aF rfl rfl (aD rfl rfl) (aF rfl rfl (aD rfl rfl) trivial)))⟩
 ·have re:∀{x:Nat→Rat} {h:Pl},eH [] (jL c i l g a,iD c x h) (jL c i l g a) (iD c x h) 4:=
   fun {x h}=>⟨[(0,0),(1,1),(2,2),(3,3)],rfl,rfl,rfl,aW rfl rfl rfl (fun q hq=>aD rfl rfl) (aF rfl rfl (aD rfl rfl) (aF rfl rfl (aD rfl rfl) (aF rfl rfl (aD rfl rfl) trivial)))⟩
  refine aq.xj hT sO hm (y:=mo) (x1:=nh) (zb:=part mo [1,1,1]) [1,1,0] (j:=1) (by kernel_rfl) (by kernel_rfl) (by kernel_rfl) (by kernel_rfl) hk (f1:=[17]) 60 gR 4 (fun _:Unit=>jL c i l g a) (fun _=>iD c (yT c a) (mX (iI c i l g) a)) (fun _=>a<4) ⟨_,acn,?_⟩ (fun _ ha'=>?_)
  ·simp only[aa.all,ax,decide_eq_true_eq,decide_eq_false_iff_not]
   exact⟨fun h1=>⟨(),by omega,re⟩,fun h1 s' hs'=>⟨rfl,a,by omega,re.le hs' hk⟩⟩
  have nx:∀s',(∃ρ,Le cx ρ s' ⟨aB gR (jL c i l g a),iD c (yT c (a+1)) (mX (iI c i l g) (a+1)),4⟩)→aq P cx mz.ntmps (part mo [1,1,1]) s' (NH cx gR (fun a:Nat=>jL c i l g a) (fun a=>iD c (yT c a) (mX (iI c i l g) a)) 4 (fun a=>a≤4) (fun a=>a=4) (fun a=>4-a) 0 (fun s'=>∃v,False∧bf gR s'=some v) a):=fun s' hle=>by
   refine aq.j0 hle (aq.bk hT sO hm 60 gR Ve (by kernel_rfl) ?_)
   simp only[aa.all,ax]
   exact⟨by omega,fun s'' hs''=>⟨a+1,by omega,by dsimp only;omega,eH.le ⟨[(0,0),(1,1),(2,2),(3,3)],rfl,rfl,rfl,aW rfl rfl rfl (fun q hq=>aD rfl rfl) (aF rfl rfl (aD rfl rfl) (aF rfl rfl (aD rfl rfl) (aF rfl rfl (aD rfl rfl) trivial)))⟩ hs'' hk⟩⟩
  exact ajt ha' hk hp1 hp6 hn hm2 hi hi2 nx
 ·subst ha
  refine aq.ni ((aE.fin hT sO hm 60 aed (by kernel_rfl) ?_).mono fun _ _ h=>.inl h)
  simp only[aa.all,ax]
  exact⟨⟨by omega,by omega⟩,by omega,.refl _⟩
def MW:Spec:=cJ (kC (yP sK sK) (kC kI (kC (kL sK) kN))) (fun a=>dw (uW a.1 a.2.1 a.2.2.1.1 a.2.2.1.2) sB) fun a=>[1≤a.1.p,a.1.p≤6,a.1.n<2^40,a.1.m<2^40,-2^40<a.2.1,a.2.1<2^40]
theorem Ti:∀K args pre r,MW K args pre=some r→aA P xM K args pre r:=cz fun⟨c,i,⟨l,g⟩,_⟩ K hn=>abV hn.1 hn.2.1 hn.2.2.1 hn.2.2.2.1 hn.2.2.2.2.1 hn.2.2.2.2.2 K
end Go.Am.B

/- Spline.Over, Spline.Insert, g8.back. -/
namespace Go.Am.B
open Go Go.Am.N AV aa ak IntKind
theorem UK:aO P xd As (au As):=aP abG (by kernel_rfl) (by kernel_rfl) (by kernel_rfl)
theorem ZJ:aO P CB yZ (au yZ):=aP Zi (by kernel_rfl) (by kernel_rfl) (by kernel_rfl)
theorem Qs:aO P AB wB (au wB):=aP Uo (by kernel_rfl) (by kernel_rfl) (by kernel_rfl)
def CI (c:Cu) (n:Nat) (k:Nat→Rat) (j:Nat):Pl:=uW c (jx c.n c.k (k (gE k n j))) c.p.toNat (fun q=>k (q+(j+1)))
def CU (c:Cu) (n:Nat) (k:Nat→Rat):Cu:=⟨c.p,n,k,n-c.p.toNat-1,CI c n k⟩
noncomputable def BX:aR:=nG::(qq,wK)::(AK,MD)::(ri,FC)::(xM,MW)::eU
abbrev xo:List Nat:=[1,2,4,5,17,18]
abbrev D3 (n m:Nat) (k:Nat→Rat) (j:Nat):List AV:=[ls k n,.ptr 0 0 3 0 [],.ptr 1 0 3 0 [],.ptr 2 0 3 0 [],.int .i64 m,.int .i64 j]
abbrev Er (c:Cu) (n:Nat) (k:Nat→Rat) (h:Nat→Pl) (j:Nat):aC:=[(3,⟨true,true,12,j,fun i=>dw (h i) sB⟩),(2,⟨false,true,3,1,fun _=>.agg [.int .i64 c.p,ls k n,.own 3 12 0 j]⟩),(1,⟨false,true,3,1,fun _=>.agg [.int .i64 0,.nil,.nil]⟩),(0,nD c sK)]
noncomputable abbrev wH:Code:=au As
theorem NT {f:Nat→Pl} {m s s':Nat} (h:s≤s'):oE (fun i=>dw (f i) s) m s':=fun _ _=>BK rfl h
noncomputable def KE:Spec:=cJ (kC (yP sK sK) (kC (kL sK) kN)) (fun a=>fE (CU a.1 a.2.1.1 a.2.1.2) sK sB) fun a=>[Kn a.1.n a.1.p.toNat a.1.k,1≤a.1.p,a.1.p≤6,a.1.n<2^40,a.1.m<2^40,a.2.1.1<2^29,a.1.p+1≤a.2.1.1]
def yR (c:Cu) (t:Rat):Cu:=CU c (c.n+1) (jd c.k t (gD c.k t c.n))
noncomputable def Pb:aR:=nG::(zF,It 2000 2002)::(xd,KE)::[]
abbrev yC:List Nat:=[2,3,13,14,15]
abbrev EK (c:Cu) (i:Nat):List AV:=[.ptr 0 0 3 0 [],.ptr 1 0 3 0 [],pJ c.f c.m sB,.int .i64 c.m,.int .i64 i]
abbrev EN (c:Cu) (i:Nat):aC:=[(2,⟨true,true,12,i,fun j=>bw (jz (c.f j)) (sB+sB)⟩),(1,⟨false,true,3,1,fun _=>.agg [.int .i64 c.p,aV c.k c.n (sK+10),.own 2 12 0 i]⟩),(0,⟨false,true,3,1,fun _=>.agg [.int .i64 0,.nil,.nil]⟩)]
noncomputable abbrev zY:Code:=au wB
def LI:Spec:=cJ (kC (Nv sB) kN) (fun a=>bw (jz a.1) (sB+sB)) fun _=>[]
def DH:aR:=nG::(mO,Fa sK (sK+10))::(pe,LI)::[]
theorem ah3 {c:Cu} {n:Nat} {k:Nat→Rat}:aK T BX [] 60 xo (before wH [1,1,0,1]) ⟨aN 0 [fE c sK sK,ls k n],[],0⟩=
  let c3:Nat:=(aU (fE c sK sK)).size;let c2:Prop:=0<1;let c1:AV:=agg [int i64 (0:Int),nil,nil];some (ag [c2,c2] (ag [c2,bP (fun i↦rat (k i) sK) n sK,n<2^40,-(2:Int)^40<c.p,c.p<(2:Int)^40] (leaf normal ([aj 3 n fun i↦rat (k i) 4096,ptr 0 0 c3 0 [],ptr 4096 0 3 0 [],ptr 24576 0 3 0 [],int i64 ((↑n:Int)-c.p-(1:Int)),int i64 (0:Int)],[((24576:Nat),ah.mk false true 3 1 fun j↦if(j==0)=true then aU (agg ((c1.kids.set 0 (aU (int i64 c.p))).set 1 (aU (ls k n))))else c1),((4096:Nat),ah.mk false true 3 1 fun x↦c1),((0:Nat),ah.mk false true c3 1 fun x↦agg [int i64 c.p,aj 3 c.n fun i↦rat (c.k i) 4096,aj 12 c.m fun i↦agg [rat (c.f i).n.x 4096,rat (c.f i).n.y 4096,rat (c.f i).n.z 4096,rat (c.f i).d 4096]])])))):=by kernel_rfl
theorem WY {c:Cu} {n m j:Nat} {k:Nat→Rat} {h:Nat→Pl}:aK T BX [19] 60 xo [part wH [1,1,0,1,0,0]] ⟨aB xo (D3 n m k j),Er c n k h j,4⟩=
  let c20:Int:=(↑m:Int);let c18:Prop:=bP (fun i↦rat (c.k i) sK) c.n sK;let c17:AV:=ptr 2 0 3 0 [];let c16:AV:=ptr 1 0 3 0 [];let c15:AV:=ptr 0 0 3 0 [];let c14:Nat:=2^40;let c13:AV:=rat 0 1;let c12:Int:=(↑j:Int);let c10:AV:=own 3 12 0 j;let c9:AV:=aj 3 n fun i↦rat (k i) 4096;let c8:Prop:=0<1;let c6:Int:=(2:Int)^63;let c5:Cu:=Cu.mk c.p c.n (fun i↦aT (rat (c.k i) sK)) c.m fun i↦yO (dw (c.f i) sK);let c2:List (Nat×ah):=[((1:Nat),ah.mk false true 3 1 fun x↦agg [int i64 (0:Int),nil,nil]),((0:Nat),ah.mk false true 3 1 fun x↦agg [int i64 c.p,aj 3 c.n fun i↦rat (c.k i) 4096,aj 12 c.m fun i↦agg [rat (c.f i).n.x 4096,rat (c.f i).n.y 4096,rat (c.f i).n.z 4096,rat (c.f i).d 4096]])];let c19:AV:=agg [int i64 c.p,ls k n,c10];let c7:Int:=(↑(gE (fun i↦aT (rat (k i) sK)) n c12.toNat):Int);let c4:Int:=c12+c.p+(1:Int);let c3:Int:=c12+(1:Int);let c11:Nat:=c4.toNat-c3.toNat;let c1:Int:=(↑(jx c.n (fun i↦aT (rat (c.k i) sK)) (k c7.toNat)):Int);some (fork (decide (c12<c20)) (ag [bP (fun i↦rat (k i) sK) n sK,(0:Int)≤c12,c12≤(↑n:Int),n<c14] (ag [c8,c8,(0:Int)≤c7∧c7.toNat<n,c18,sK≤sK,Kn c.n c.p.toNat fun i↦aT (rat (c.k i) sK),(0:Int)≤c.p,c.n<c14] (ag [c8,c8,-c6≤c3∧c3<c6,c8,-c6≤c12+c.p∧c12+c.p<c6,-c6≤c4∧c4<c6,(0:Int)≤c3∧c3≤c4∧c4≤c4∧c4≤(↑n:Int),c18,oE (fun i↦dw (c.f i) sK) c.m sK,bP (fun i↦rat (k (i+c3.toNat)) sK) c11 sK,(1:Int)≤c.p,c.p≤(6:Int),c.n<c14,c.m<c14,-(2:Int)^40<c1,c1<(2:Int)^40,(1:Nat)*12≤2^24,(j+1)*((224:Nat)+1)*2≤2^47,c8] (ag [-c6≤c3∧c3<c6] (leaf normal ([c9,c15,c16,c17,int i64 c20,int i64 c3],((147460:Nat),ah.mk true true 12 (j+1) fun i↦if i<j then dw (h i) sB else nth [agg [rat (iI c5 c1 c11 (fun i↦aT (rat (k (i+c3.toNat)) sK)) 0) sB,rat (iI c5 c1 c11 (fun i↦aT (rat (k (i+c3.toNat)) sK)) 1) sB,rat (iI c5 c1 c11 (fun i↦aT (rat (k (i+c3.toNat)) sK)) 2) sB,rat (iI c5 c1 c11 (fun i↦aT (rat (k (i+c3.toNat)) sK)) 3) sB]] (agg [c13,c13,c13,c13]) (i-j+0))::((2:Nat),ah.mk false true 3 1 fun j_1↦if(j_1==0)=true then agg (c19.kids.set 2 (aU (own (nat_lit 147459+1) 12 0 (j+1))))else c19)::c2)))))) (leaf (exit 0) ([c9,c15,c16,c17,int i64 c20,int i64 c12],((3:Nat),ah.mk true true 12 j fun i↦agg [rat (h i).n.x 536870912,rat (h i).n.y 536870912,rat (h i).n.z 536870912,rat (h i).d 536870912])::((2:Nat),ah.mk false true 3 1 fun x↦agg [int i64 c.p,c9,c10])::c2))):=by kernel_rfl
theorem afy {c:Cu} {n m j:Nat} {k:Nat→Rat} {h:Nat→Pl}:bW T BX [] 60 As [part wH [1,1,1]] ⟨aB xo (D3 n m k j),Er c n k h j,4⟩=
  let c1:Prop:=0<1;some (ag [c1,c1] (ag [c1] (leaf ret [agg [int i64 c.p,aj 3 n fun i↦rat (k i) 4096,aj 12 j fun i↦agg [rat (h (i+0)).n.x 536870912,rat (h (i+0)).n.y 536870912,rat (h (i+0)).n.z 536870912,rat (h (i+0)).d 536870912]]]))):=by kernel_rfl
theorem af8 {c:Cu} {t:Rat}:bC T Pb [] 60 yZ (au yZ) ⟨aN 0 [fE c 2000 4000,.rat t 2000],[],0⟩=
  some (ag [0<1,0<1,0<1,bP (fun i=>.rat (c.k i) 2000) c.n 2000,2000≤2000,c.n<2^40,bP (fun i=>.rat (c.k i) 2000) c.n sK,oE (fun i=>dw (c.f i) 4000) c.m sK,bP (fun i=>.rat (jd c.k t (gD c.k t c.n) i) 2002) (c.n+1) sK,Kn c.n c.p.toNat c.k,1≤c.p,c.p≤6,c.n<2^40,c.m<2^40,c.n+1<2^29,c.p+1≤(c.n+1:Nat),0<1]
   (ag [0<1] (leaf .ret [fE (yR c t) sK sB]))):=by kernel_rfl
theorem Ry {c:Cu}:aK T DH [] 60 yC (before zY [1,1,0,1]) ⟨aN 0 [fE c sK sB],[],0⟩=
  let c3:Nat:=sK+10;let c2:Prop:=0<1;let c1:AV:=agg [int i64 (0:Int),nil,nil];some (ag [c2,c2,bP (fun i↦rat (c.k i) sK) c.n sK,c3≤c3,c3<2^40,c.n<2^40,c2] (ag [c2] (leaf normal ([ptr 4096 0 3 0 [],ptr 32768 0 3 0 [],aj 12 c.m fun i↦agg [rat (c.f i).n.x 536870912,rat (c.f i).n.y 536870912,rat (c.f i).n.z 536870912,rat (c.f i).d 536870912],int i64 (↑c.m:Int),int i64 (0:Int)],[((32768:Nat),ah.mk false true 3 1 fun j↦if(j==0)=true then aU (agg ((c1.kids.set 0 (aU (int i64 c.p))).set 1 (aU (aV (fun i↦aT (rat (c.k i) sK)) c.n c3))))else c1),((4096:Nat),ah.mk false true 3 1 fun x↦c1)])))):=by kernel_rfl
theorem YY {c:Cu} {i:Nat}:aK T DH [16] 60 yC [part zY [1,1,0,1,0,0]] ⟨aB yC (EK c i),EN c i,3⟩=
  let c11:Int:=(↑c.m:Int);let c10:AV:=own 2 12 0 i;let c9:AV:=ptr 1 0 3 0 [];let c8:AV:=ptr 0 0 3 0 [];let c7:Prop:=0<1;let c6:Int:=(↑i:Int);let c5:AV:=rat 0 1;let c4:Nat×ah:=((0:Nat),ah.mk false true 3 1 fun x↦agg [int i64 (0:Int),nil,nil]);let c1:AV:=aj 12 c.m fun i↦agg [rat (c.f i).n.x 536870912,rat (c.f i).n.y 536870912,rat (c.f i).n.z 536870912,rat (c.f i).d 536870912];let c12:Int:=c6+(1:Int);let c3:AV:=agg [int i64 c.p,aV c.k c.n (sK+10),c10];let c2:Pl:=c.f c6.toNat;some (fork (decide (c6<c11)) (ag [(0:Int)≤c6∧c6.toNat<c.m,c7] (ag [c7,c7,sB≤sB,sB≤sB,sB≤sB,sB≤sB,(1:Nat)*12≤2^24,(i+1)*((224:Nat)+1)*2≤2^47,c7] (ag [-(2:Int)^63≤c12∧c12<(2:Int)^63] (leaf normal ([c8,c9,c1,int i64 c11,int i64 c12],[((40963:Nat),ah.mk true true 12 (i+1) fun i_1↦if i_1<i then bw (jz (c.f i_1)) (sB+sB)else nth [agg [agg [rat (c2.n.x/c2.d) (sB+sB),rat (c2.n.y/c2.d) (sB+sB),rat (c2.n.z/c2.d) (sB+sB)],rat c2.d (sB+sB)]] (agg [agg [c5,c5,c5],c5]) (i_1-i+0)),((1:Nat),ah.mk false true 3 1 fun j↦if(j==0)=true then agg (c3.kids.set 2 (aU (own (nat_lit 40962+1) 12 0 (i+1))))else c3),c4]))))) (leaf (exit 0) ([c8,c9,c1,int i64 c11,int i64 c6],[((2:Nat),ah.mk true true 12 i fun j↦agg [agg [rat ((c.f j).n.x/(c.f j).d) 1073741824,rat ((c.f j).n.y/(c.f j).d) 1073741824,rat ((c.f j).n.z/(c.f j).d) 1073741824],rat (c.f j).d 1073741824]),((1:Nat),ah.mk false true 3 1 fun x↦agg [int i64 c.p,aj 3 c.n fun i↦rat (c.k i) 4106,c10]),c4]))):=by kernel_rfl
theorem ajK {c:Cu} {i:Nat}:bW T DH [] 60 wB [part zY [1,1,1]] ⟨aB yC (EK c i),EN c i,3⟩=
  let c1:Prop:=0<1;some (ag [c1,c1] (ag [c1] (leaf ret [agg [int i64 c.p,aj 3 c.n fun i↦rat (c.k i) 4106,aj 12 i fun i↦agg [agg [rat ((c.f (i+0)).n.x/(c.f (i+0)).d) 1073741824,rat ((c.f (i+0)).n.y/(c.f (i+0)).d) 1073741824,rat ((c.f (i+0)).n.z/(c.f (i+0)).d) 1073741824],rat (c.f (i+0)).d 1073741824]]]))):=by kernel_rfl
theorem L2 {k:Nat→Rat} {n:Nat}:∀{f i:Nat},i<n→r7 k n f i<n
 |0,_,h=>h
 |f+1,i,h=>by
  unfold r7
  split
  ·exact L2 (by omega)
  ·exact h
theorem TG {k:Nat→Rat} {n i:Nat} (h:i<n):gE k n i<n:=L2 h
theorem U7 {n p:Nat} {k:Nat→Rat} (h:Kn n p k) {t:Rat}:jx n k t<n:=by
 have hl:=h.len
 unfold jx
 split
 ·omega
 ·have:=h.Gh ‹_›
  omega
theorem Vf:aX P BX:=cC (aJ C5 (aJ ac2 (aJ MO (aJ Ti fC))))
theorem afd {c:Cu} {n:Nat} {k:Nat→Rat} (hk:Kn c.n c.p.toNat c.k) (hp1:1≤c.p) (hp6:c.p≤6) (hn:c.n<2^40) (hm2:c.m<2^40) (hn2:n<2^29) (hpn:c.p+1≤n) (K:Nat):aA P xd K [fE c sK sK,ls k n] [] (aI (fE (CU c n k) sK sB) []):=by
 obtain⟨q,hq⟩:∃q,q=c.p.toNat:=⟨_,rfl⟩
 have hqp:c.p=(q:Int):=by omega
 refine fK (r:=aI (fE (CU c n k) sK sB) []) hT Vf hm UK rfl (of_decide_eq_true (by kernel_rfl)) rfl [1,1,0,1] (i:=0) (y:=part wH [1,1,0,1,0,0]) (z:=part wH [1,1,1]) (by kernel_rfl) (by kernel_rfl) (by kernel_rfl) (f1:=[]) (f2:=[19]) (f3:=[]) 60 xo 4
  (fun j:Nat=>D3 n (n-c.p.toNat-1) k j) (fun j=>Er c n k (CI c n k) j) (fun j=>j≤n-c.p.toNat-1) (fun j=>j=n-c.p.toNat-1) (fun j=>n-c.p.toNat-1-j) (fun _=>⟨⟨_,ah3,?_⟩,fun j hj=>⟨_,WY,?_⟩,fun j hj=>⟨_,afy,?_⟩⟩) K []
 ·have e1:(n:Int)-c.p-1=((n-c.p.toNat-1:Nat):Int):=by omega
  simp only[aa.all,ax,e1]
  exact⟨⟨by omega,by omega⟩,⟨by omega,cU (Nat.le_refl _),by omega,by omega,by omega⟩,0,Nat.zero_le _,[(0,0),(1,4096),(2,24576)],rfl,rfl,rfl,jy rfl (by omega) (by omega) (aF rfl rfl (gv ⟨⟨rfl,aG rfl⟩,⟨rfl,aG rfl⟩,⟨rfl,me (by omega)⟩,trivial⟩) (aF rfl rfl (aD rfl rfl) (aF rfl rfl (aD rfl rfl) trivial)))⟩
 ·have e1:((j:Int)+1).toNat=j+1:=by omega
  have e2:((j:Int)+c.p+1).toNat=j+q+1:=by omega
  have e3:j+q+1-(j+1)=q:=by omega
  simp only[aa.all,ax,decide_eq_true_eq,decide_eq_false_iff_not,Int.toNat_natCast,e1,e2,e3,Nat.add_zero]
  have h7:gE (fun i=>aT (rat (k i) sK)) n j=gE k n j:=rfl
  have h8:∀t,jx c.n (fun i=>aT (rat (c.k i) sK)) t=jx c.n c.k t:=fun _=>rfl
  simp only[h7,h8]
  refine⟨fun h=>?_,fun h=>⟨rfl,j,by omega,[(0,0),(1,1),(2,2),(3,3)],rfl,rfl,rfl,aW rfl rfl rfl (fun _ _=>aD rfl rfl) (aF rfl rfl (rB rfl rfl rfl) (aF rfl rfl (aD rfl rfl) (aF rfl rfl (aD rfl rfl) trivial)))⟩⟩
  have h1:=TG (k:=k) (n:=n) (i:=j) (by omega)
  have h2:=U7 hk (t:=k (gE k n j))
  (repeat' with_reducible refine And.intro ?_ ?_)
  all_goals first|omega|exact cU (Nat.le_refl _)|exact hk|exact fun _ _=>.refl _|skip
  refine⟨j+1,by omega,by dsimp only;omega,[(0,0),(1,1),(2,2),(3,147460)],rfl,rfl,rfl,aW rfl rfl rfl (fun j' hj'=>Et (g:=fun j=>dw (CI c n k j) sB) (fun _ _=>⟨rfl,rfl⟩) rfl ?_ hj') (aF rfl rfl (rB rfl rfl rfl) (aF rfl rfl (aD rfl rfl) (aF rfl rfl (aD rfl rfl) trivial)))⟩
  exact BK (h:=uW c (jx c.n c.k (k (gE k n j))) q (fun q=>k (q+(j+1)))) (by unfold CI;rw[hq]) (Nat.le_refl _)
 ·subst hj
  simp only[aa.all,ax]
  exact⟨⟨by omega,by omega⟩,by omega,.refl _⟩
theorem Xq:∀K args pre r,KE K args pre=some r→aA P xd K args pre r:=cz fun⟨c,⟨n,k⟩,_⟩ K hn=>afd hn.1 hn.2.1 hn.2.2.1 hn.2.2.2.1 hn.2.2.2.2.1 hn.2.2.2.2.2.1 hn.2.2.2.2.2.2 K
theorem W9:aX P Pb:=cC (aJ (Vh (by decide) (by decide)) (aJ Xq bn))
noncomputable def Oc:Spec:=cJ (kC (yP 2000 4000) (kC (iG 2000) kN)) (fun a=>fE (yR a.1 a.2.1) sK sB) fun a=>[Kn a.1.n a.1.p.toNat a.1.k,1≤a.1.p,a.1.p≤6,a.1.n<2^28,a.1.m<2^40]
theorem Z1:∀K args pre r,Oc K args pre=some r→aA P CB K args pre r:=cz fun⟨c,t,_⟩ K hn=>by
 obtain⟨h1,h2,h3,h4,h5⟩:Kn c.n c.p.toNat c.k∧1≤c.p∧c.p≤6∧c.n<2^28∧c.m<2^40:=hn
 have hl:=h1.len
 refine bF (r:=aI (fE (yR c t) sK sB) []) hT W9 hm ZJ rfl (of_decide_eq_true (by kernel_rfl)) rfl 60 af8 (fun _=>?_) K []
 simp only[aa.all,ax]
 (repeat' with_reducible refine And.intro ?_ ?_)
 all_goals first|omega|exact cU (by decide)|exact h1|exact NT (by decide)|skip
 exact .refl _
theorem Q1:∀K args pre r,LI K args pre=some r→aA P pe K args pre r:=cz fun⟨h,_⟩ K _=>ON (by decide) (by decide) (by decide) K
theorem ahq:aX P DH:=cC (aJ (MN _ _) (aJ Q1 bn))
theorem ajW {c:Cu} (hn:c.n<2^40) (hm2:c.m<2^29) (K:Nat):aA P AB K [fE c sK sB] [] (aI (bE ⟨c.p,c.n,c.k,c.m,fun i=>jz (c.f i)⟩ (sK+10) (sB+sB)) []):=by
 refine fK (r:=aI (bE ⟨c.p,c.n,c.k,c.m,fun i=>jz (c.f i)⟩ (sK+10) (sB+sB)) []) hT ahq hm Qs rfl (of_decide_eq_true (by kernel_rfl)) rfl [1,1,0,1] (i:=0) (y:=part zY [1,1,0,1,0,0]) (z:=part zY [1,1,1]) (by kernel_rfl) (by kernel_rfl) (by kernel_rfl) (f1:=[]) (f2:=[16]) (f3:=[]) 60 yC 3
  (fun i:Nat=>EK c i) (fun i=>EN c i) (fun i=>i≤c.m) (fun i=>i=c.m) (fun i=>c.m-i) (fun _=>⟨⟨_,Ry,?_⟩,fun i hi=>⟨_,YY,?_⟩,fun i hi=>⟨_,ajK,?_⟩⟩) K []
 ·simp only[aa.all,ax]
  exact⟨⟨by omega,by omega,cU (Nat.le_refl _),by omega,by decide,by omega,by omega⟩,by omega,0,Nat.zero_le _,[(0,4096),(1,32768)],rfl,rfl,rfl,jy rfl (by omega) (by omega) (aF rfl rfl (gv ⟨⟨rfl,aG rfl⟩,⟨rfl,aG rfl⟩,⟨rfl,me (by omega)⟩,trivial⟩) (aF rfl rfl (aD rfl rfl) trivial))⟩
 ·simp only[aa.all,ax,decide_eq_true_eq,decide_eq_false_iff_not,Int.toNat_natCast,Nat.add_zero]
  refine⟨fun h=>?_,fun h=>⟨rfl,i,by omega,[(0,0),(1,1),(2,2)],rfl,rfl,rfl,aW rfl rfl rfl (fun _ _=>aD rfl rfl) (aF rfl rfl (rB rfl rfl rfl) (aF rfl rfl (aD rfl rfl) trivial))⟩⟩
  (repeat' with_reducible refine And.intro ?_ ?_)
  all_goals first|omega|exact Nat.le_refl _|skip
  exact⟨i+1,by omega,by dsimp only;omega,[(0,0),(1,1),(2,40963)],rfl,rfl,rfl,aW rfl rfl rfl (fun j hj=>Et (g:=fun j=>bw (jz (c.f j)) (sB+sB)) (fun _ _=>⟨rfl,rfl⟩) rfl (.refl _) hj) (aF rfl rfl (rB rfl rfl rfl) (aF rfl rfl (aD rfl rfl) trivial))⟩
 ·subst hi
  simp only[aa.all,ax]
  exact⟨⟨by omega,by omega⟩,by omega,.refl _⟩
def NV:Spec:=cJ (kC (yP sK sB) kN) (fun a=>bE ⟨a.1.p,a.1.n,a.1.k,a.1.m,fun i=>jz (a.1.f i)⟩ (sK+10) (sB+sB)) fun a=>[a.1.n<2^40,a.1.m<2^29]
theorem VO:∀K args pre r,NV K args pre=some r→aA P AB K args pre r:=cz fun⟨c,_⟩ K hn=>ajW hn.1 hn.2 K
end Go.Am.B
