/- brepkernellaw10.CurveMoves. -/
import Derived.Test.YtppeigelbecpbaaGreatY50
import Derived.Test.YtppeigelbecpbaaGreatY51
import Derived.Test.YtppeigelbecpbaaGreatY48
import Derived.Test.YtppeigelbecpbaaGreatY45
set_option linter.unusedVariables false
namespace Go.Am.B
open Go Go.Am.N AV aa ak IntKind
theorem Ic:aO P Fc jQ (au jQ):=aP abr (by kernel_rfl) (by kernel_rfl) (by kernel_rfl)
abbrev bJ (z:Nat→Int):Nat→AV:=fun i=>.int .i64 (z i)
noncomputable def rj:aR:=nG::(BA,MK)::(yE,Ln)::(A4,Ky)::(wq,EI)::(Dl,gG DM)::(C7,PS)::(lJ,tL)::(z6,Bg)::(uL,Bg)::(xL,CT)::(yV,CT)::(vR,DI 64 64 200 200)::(Ap,DI 64 64 200 64)::(mM,Gp 64 64 64 100 1000)::(uA,JE)::(Ah,MF)::[]
noncomputable abbrev nB:Code:=au jQ
noncomputable abbrev oK:Code:=part nB [1,1,1,1,0,1,0]
abbrev iU:List Nat:=[8,1,2,10,11,12,34]
abbrev mB (i j:Int) (b:Bool):List AV:=[.bool false,.int .i64 i,.int .i64 j,.ptr 0 0 3 0 [],.ptr 1 0 3 0 [],.ptr 2 0 36 0 [],.bool b]
abbrev mu (c:Cu) (p:Int) (k:Nat→Rat) (n N l:Nat) (f:Nat→Pl) (m:Mp):aC:=[(3,lC c.m c.f 64),(4,lC N f 64),(2,⟨false,true,36,1,fun _=>fh m 64⟩),(1,⟨false,true,3,1,fun _=>.agg [.int .i64 p,aV k n 64,.own 4 12 0 l]⟩),(0,⟨false,true,3,1,fun _=>.agg [.int .i64 c.p,aV c.k c.n 64,.own 3 12 0 c.m]⟩)]
abbrev Dy (n:Nat) (f:Nat→AV) (a:Int):V3:=⟨cQ n f a,cQ n f (cI n f a),cQ n f (cI n f (cI n f a))⟩
abbrev afJ (n:Nat) (f:Nat→AV) (a:Int):Mp:=⟨⟨Dy n f a,Dy n f (bT n f a),Dy n f (bT n f (bT n f a))⟩,Dy n f (bT n f (bT n f (bT n f a)))⟩
theorem abi {n:Nat} {z:Nat→Int} {i j:Int} {b:Bool}:aK T rj [23] 60 iU (before nB [1,1,1,1,0,1]) ⟨aN 0 [.aj 1 n (bJ z),.int .i64 i,.int .i64 j,.bool b],[],0⟩=
  let c16:Int:=bz n (0:Int);let c15:AV:=agg [int i64 (0:Int),nil,nil];let c13:Prop:=0<1;let c12:AV:=rat 0 1;let c9:Prop:=(3:Int)<(900:Int);let c4:Nat:=ke n (bJ z) (0:Int) (3:Int);let c2:Nat:=Int.toNat (3:Int);let c10:Nat:=c4+1+jn n (bJ z) c16 c2;let c6:Int:=oT n (bJ z) (0:Int) (3:Int) c2;let c3:AV:=agg [c12,c12,c12];let c1:Int:=iO n (bJ z) (0:Int) (3:Int) c2;let c8:Int:=oT n (bJ z) c1 (3:Int) c2;let c7:Nat:=ke n (bJ z) c1 (3:Int);let c5:Int:=iO n (bJ z) c1 (3:Int) c2;let c14:Int:=bT n (bJ z) (bT n (bJ z) c5);let c11:Nat:=c7+1+jn n (bJ z) (bz n c1) c2;some (fork (!decide ((↑n:Int)≤(500:Int))) (leaf ret ([AV.bool true,int i64 i,int i64 j,tuple [],tuple [],tuple [],tuple []],[])) (ag [b6 n (bJ z) (0:Int),(1:Int)≤(3:Int),c9,(0:Int)≤(3:Int),c9,b6 n (bJ z) c1,(1:Int)≤(3:Int),c9,(0:Int)≤(3:Int),c9,b6 n (bJ z) c5,c13,c13,c13] (leaf normal ([AV.bool false,int i64 i,int i64 j,ptr 53248 0 3 0 [],ptr 57344 0 3 0 [],ptr 61440 0 36 0 [],AV.bool !b],[((40960:Nat),ah.mk true true 12 c11 fun j↦agg [agg [rat (cQ n (bJ z) (gA n (bJ z) c8 j)) 64,rat (cQ n (bJ z) (cI n (bJ z) (gA n (bJ z) c8 j))) 64,rat (if false=true then 0 else cQ n (bJ z) (cI n (bJ z) (cI n (bJ z) (gA n (bJ z) c8 j)))) 64],rat (↑((1:Int)+cB n (bJ z) (bT n (bJ z) (gA n (bJ z) c8 j)) (3:Int)):Rat) 64]),((32768:Nat),ah.mk true true 12 c10 fun j↦agg [agg [rat (cQ n (bJ z) (gA n (bJ z) c6 j)) 64,rat (cQ n (bJ z) (cI n (bJ z) (gA n (bJ z) c6 j))) 64,rat (if false=true then 0 else cQ n (bJ z) (cI n (bJ z) (cI n (bJ z) (gA n (bJ z) c6 j)))) 64],rat (↑((1:Int)+cB n (bJ z) (bT n (bJ z) (gA n (bJ z) c6 j)) (3:Int)):Rat) 64]),((61440:Nat),ah.mk false true 36 1 fun j↦if(j==0)=true then aU (agg [agg [oF n (bJ z) c5,oF n (bJ z) (bT n (bJ z) c5),oF n (bJ z) c14],oF n (bJ z) (bT n (bJ z) c14)])else agg [agg [c3,c3,c3],c3]),((57344:Nat),ah.mk false true 3 1 fun j↦if(j==0)=true then aU (fy [agg [int i64 (↑c7:Int),aV (oQ n (bJ z) (bz n c1) c7 c2) (mm n (bJ z) (bz n c1) c7 c2) 64,own (nat_lit 40959+1) 12 0 c11]])else c15),((53248:Nat),ah.mk false true 3 1 fun j↦if(j==0)=true then aU (fy [agg [int i64 (↑c4:Int),aV (oQ n (bJ z) c16 c4 c2) (mm n (bJ z) c16 c4 c2) 64,own (nat_lit 32767+1) 12 0 c10]])else c15)])))):=by kernel_rfl
theorem Xs {c:Cu} {p i j:Int} {k:Nat→Rat} {n l:Nat} {f:Nat→Pl} {m:Mp}:aK T rj [] 60 iU (before oK [1,0]) ⟨aB iU (mB i j true),mu c p k n l l f m,5⟩=
  let c2:Prop:=0<1;let c1:AV:=agg [int i64 p,aV k n 64,own 4 12 0 l];let c3:AV:=agg (c1.kids.set 0 (aU (int i64 c.p)));some (ag [c2,c2,c2,c2] (leaf normal ([AV.bool false,int i64 i,int i64 j,ptr 0 0 3 0 [],ptr 1 0 3 0 [],ptr 2 0 36 0 [],AV.bool true],[((4:Nat),ah.mk true true 12 l fun j↦agg [agg [rat (f j).n.x 64,rat (f j).n.y 64,rat (f j).n.z 64],rat (f j).d 64]),((3:Nat),ah.mk true true 12 c.m fun j↦agg [agg [rat (c.f j).n.x 64,rat (c.f j).n.y 64,rat (c.f j).n.z 64],rat (c.f j).d 64]),((2:Nat),ah.mk false true 36 1 fun x↦agg [agg [agg [rat m.m.a.x 64,rat m.m.a.y 64,rat m.m.a.z 64],agg [rat m.m.b.x 64,rat m.m.b.y 64,rat m.m.b.z 64],agg [rat m.m.c.x 64,rat m.m.c.y 64,rat m.m.c.z 64]],agg [rat m.t.x 64,rat m.t.y 64,rat m.t.z 64]]),((1:Nat),ah.mk false true 3 1 fun j↦if(j==0)=true then agg ((if((0:Nat)==0)=true then c3 else c1).kids.set 1 (aU (aV c.k c.n 64)))else if(j==0)=true then c3 else c1),((0:Nat),ah.mk false true 3 1 fun x↦agg [int i64 c.p,aj 3 c.n fun i↦rat (c.k i) 64,own 3 12 0 c.m])]))):=by kernel_rfl
theorem ahH {c:Cu} {p i j:Int} {k:Nat→Rat} {n l:Nat} {f:Nat→Pl} {m:Mp}:aK T rj [47] 60 iU [part oK [1,0,0,0]] ⟨aB iU (mB i j true),mu c p k n l l f m,5⟩=
  let c8:AV:=own 4 12 0 l;let c7:Prop:=0<1;let c5:AV:=rat 0 1;let c4:Nat×ah:=((0:Nat),ah.mk false true 3 1 fun x↦agg [int i64 c.p,aj 3 c.n fun i↦rat (c.k i) 64,own 3 12 0 c.m]);let c3:Nat×ah:=((3:Nat),ah.mk true true 12 c.m fun j↦agg [agg [rat (c.f j).n.x 64,rat (c.f j).n.y 64,rat (c.f j).n.z 64],rat (c.f j).d 64]);let c2:List AV:=[AV.bool false,int i64 i,int i64 j,ptr 0 0 3 0 [],ptr 1 0 3 0 [],ptr 2 0 36 0 [],AV.bool true];let c1:Nat×ah:=((2:Nat),ah.mk false true 36 1 fun x↦agg [agg [agg [rat m.m.a.x 64,rat m.m.a.y 64,rat m.m.a.z 64],agg [rat m.m.b.x 64,rat m.m.b.y 64,rat m.m.b.z 64],agg [rat m.m.c.x 64,rat m.m.c.y 64,rat m.m.c.z 64]],agg [rat m.t.x 64,rat m.t.y 64,rat m.t.z 64]]);let c6:AV:=agg [int i64 p,aV k n 64,c8];some (ag [c7,c7] (fork (decide ((↑l:Int)<(↑c.m:Int))) (ag [c7,-(2:Int)^63≤(1:Int),(1:Int)<(2:Int)^63,(1:Nat)*12≤2^24,(l+1)*((224:Nat)+1)*2≤2^47,c7] (leaf normal (c2,[((49157:Nat),ah.mk true true 12 (l+1) fun i↦if i<l then bw (f i) 64 else nth [agg [agg [c5,c5,c5],rat (↑(1:Int):Rat) (Max.max 1 (br (Int.natAbs (1:Int))))]] (agg [agg [c5,c5,c5],c5]) (i-l+0)),c3,c1,((1:Nat),ah.mk false true 3 1 fun j↦if(j==0)=true then agg (c6.kids.set 2 (aU (own (nat_lit 49156+1) 12 0 (l+1))))else c6),c4]))) (leaf (exit 0) (c2,[((4:Nat),ah.mk true true 12 l fun j↦agg [agg [rat (f j).n.x 64,rat (f j).n.y 64,rat (f j).n.z 64],rat (f j).d 64]),c3,c1,((1:Nat),ah.mk false true 3 1 fun x↦agg [int i64 p,aj 3 n fun i↦rat (k i) 64,c8]),c4])))):=by kernel_rfl
theorem af3 {c:Cu} {p i j:Int} {k:Nat→Rat} {n l:Nat} {f:Nat→Pl} {m:Mp}:aK T rj [] 60 iU [part oK [1,1]] ⟨aB iU (mB i j true),mu c p k n l l f m,5⟩=
  let c7:Int:=(↑c.m:Int);let c5:AV:=agg [int i64 p,aV k n 64,own 4 12 0 l];let c4:Nat:=Int.toNat (0:Int);let c3:Prop:=0<1;let c2:Int:=c7-(1:Int);let c1:Nat:=c4+((0:Nat)+c4);let c6:V3:=(c.f (c2.toNat+0)).n;some (ag [c3,c3,(0:Int)≤(0:Int)∧(0:Int)≤c7∧c7≤c7∧c7≤(↑l:Int),c3] (ag [c3,c3,c3,-(2:Int)^63≤c2∧c2<(2:Int)^63,(0:Int)≤c2∧c2.toNat<c.m,c2.toNat+0<c.m,(0:Int)≤(0:Int)∧c4<c7.toNat-c4,c1<l] (leaf normal ([AV.bool false,int i64 i,int i64 j,ptr 0 0 3 0 [],ptr 1 0 3 0 [],ptr 2 0 36 0 [],AV.bool true],[((4:Nat),ah.mk true true 12 l fun j↦agg [agg [rat (bif j==c1 then c6.x else(f j).n.x) (bif j==c1 then 64 else 64),rat (bif j==c1 then c6.y else(f j).n.y) (bif j==c1 then 64 else 64),rat (bif j==c1 then c6.z else(f j).n.z) (bif j==c1 then 64 else 64)],rat (bif j==c1 then(f c1).d else(f j).d) (bif j==c1 then 64 else 64)]),((3:Nat),ah.mk true true 12 c.m fun j↦agg [agg [rat (c.f j).n.x 64,rat (c.f j).n.y 64,rat (c.f j).n.z 64],rat (c.f j).d 64]),((2:Nat),ah.mk false true 36 1 fun x↦agg [agg [agg [rat m.m.a.x 64,rat m.m.a.y 64,rat m.m.a.z 64],agg [rat m.m.b.x 64,rat m.m.b.y 64,rat m.m.b.z 64],agg [rat m.m.c.x 64,rat m.m.c.y 64,rat m.m.c.z 64]],agg [rat m.t.x 64,rat m.t.y 64,rat m.t.z 64]]),((1:Nat),ah.mk false true 3 1 fun j↦if(j==0)=true then agg (c5.kids.set 2 (aU (own 4 12 ((0:Nat)+c4) (c7.toNat-c4))))else c5),((0:Nat),ah.mk false true 3 1 fun x↦agg [int i64 c.p,aj 3 c.n fun i↦rat (c.k i) 64,own 3 12 0 c.m])])))):=by kernel_rfl
theorem ahO {c:Cu} {p i j:Int} {k:Nat→Rat} {n N l:Nat} {f:Nat→Pl} {m:Mp} {b:Bool}:bW T rj [100108,100113,100118,100123,100130,100139] 200 jQ [part nB [1,1,1,1,1]] ⟨aB iU (mB i j b),mu c p k n N l f m,5⟩=
  let c26:Nat:=Max.max 64 64;let c22:Nat:=c.m-1;let c18:Prop:=bP (fun i↦rat (fG c.n (fun i↦aT (rat (c.k i) 64)) i) 200) c.n sU;let c15:Prop:=(bif true then true else false)=true;let c14:Rat:=BQ j (3:Int);let c13:Rat:=BQ i (2:Int);let c11:Prop:=bP (fun i↦rat (c.k i) 64) c.n 64;let c10:Cu:=Cu.mk p n (fun i↦aT (rat (k i) 64)) l fun i↦dP (bw (f (i+0)) 64);let c9:Prop:=0<1;let c8:Cu:=Cu.mk c.p c.n (fun i↦aT (rat (c.k i) 64)) c.m fun i↦dP (bw (c.f (i+0)) 64);let c7:Prop:=eM (fun i↦bw (c.f (i+0)) 64) c.m 64;let c6:Nat:=2^30;let c4:Mp:=Mp.mk (M3.mk (V3.mk m.m.a.x m.m.a.y m.m.a.z) (V3.mk m.m.b.x m.m.b.y m.m.b.z) (V3.mk m.m.c.x m.m.c.y m.m.c.z)) (V3.mk m.t.x m.t.y m.t.z);let c3:Prop:=64≤64;let c27:Nat:=jf c.n c13 c14;let c25:Nat:=jf c.m c13 c14;let c24:Prop:=c.n<c6;let c23:Prop:=c.m<c6;let c2:List Prop:=[c9,c9,c11,c7,bP (fun i↦rat (k i) 64) n 64,eM (fun i↦bw (f (i+0)) 64) l 64,dY c8,dY c10,c.m+l≤41,c9];let c1:Cu:=gB c8 c10;let c21:Prop:=eM (fun i↦bw (c1.f i) 1000) c1.m sU;let c20:Prop:=bP (fun i↦rat (c1.k i) 1000) c1.n sU;let c19:List Prop:=[c9,c11,c7,c3,c3,(1:Nat)≤c.n,c24,c23,c9];let c17:Prop:=eM (fun i↦bw (dP (bw (c.f (i+0)) 64)) 1000) c25 sU;let c16:Cu:=Cu.mk c1.p c1.n (fun i↦aT (rat (c1.k i) 1000)) c1.m fun i↦dP (bw (c1.f i) 1000);let c12:Prop:=bP (fun i↦rat (fL c.n (fun i↦aT (rat (c.k i) 64)) c13 c14 i) 1000) c27 sU;let c5:Cu:=Cu.mk (if c14≤c13 then(0:Int)else c.p) c27 (fun i↦aT (rat (fL c.n (fun i↦aT (rat (c.k i) 64)) c13 c14 i) 1000)) c25 fun i↦dP (bw (dP (bw (c.f (i+0)) 64)) 1000);some (ag c2 (ag c2 (ag c19 (ag c19 (ag [(fm c8 c10==fm c8 c10)=true,c9,c9,c20,c21,c20,c21,rD c16 c16,c1.n<c6,c1.m<c6,c15,(bif true then gV c13 c14==gV c13 c14 else false)=true,c9,c9,c12,c17,c12,c17,rD c5 c5,c27<c6,c25<c6,c15,c9,c11,c7,c24,c23,c9,c11,c7,c24,c23,c18,eM (fun i↦bw (dP (bw (c.f (c22-i+0)) 64)) 200) c.m sU,c18,eM (fun i↦bw (dP (bw (c.f (c22-i+0)) 64)) 64) c.m sU,rD (Cu.mk c.p c.n (fun i↦aT (rat (fG c.n (fun i↦aT (rat (c.k i) 64)) i) 200)) c.m fun i↦dP (bw (dP (bw (c.f (c22-i+0)) 64)) 200)) (Cu.mk c.p c.n (fun i↦aT (rat (fG c.n (fun i↦aT (rat (c.k i) 64)) i) 200)) c.m fun i↦dP (bw (dP (bw (c.f (c22-i+0)) 64)) 64)),c24,c23,c15,c9,c9,c11,c7,c26≤64,c3,c3,c3,c3,c3,c3,c3,c3,c3,c3,c24,c23,c9,c9,bP (fun i↦rat (c.k i) 64) c.n sQ,eM (fun i↦bw (c.f (i+0)) 64) c.m sQ,c26≤sM,c3,c3,c3,c3,c3,c3,c3,c3,c3,c3,c24,c23,bP (fun i↦rat (aT (rat (c.k i) 64)) 100) c.n sU,eM (fun i↦bw (gT c4 (dP (bw (c.f (i+0)) 64))) 1000) c.m sU,bP (fun i↦rat (aT (rat (c.k i) 64)) sQ) c.n sU,eM (fun i↦bw (gT c4 (dP (bw (c.f (i+0)) 64))) sW) c.m sU,rD (Cu.mk c.p c.n (fun i↦aT (rat (aT (rat (c.k i) 64)) 100)) c.m fun i↦dP (bw (gT c4 (dP (bw (c.f (i+0)) 64))) 1000)) (Cu.mk c.p c.n (fun i↦aT (rat (aT (rat (c.k i) 64)) sQ)) c.m fun i↦dP (bw (gT c4 (dP (bw (c.f (i+0)) 64))) sW)),c24,c23,c15] (leaf ret [AV.bool true])))))):=by kernel_rfl
theorem A1:aX P rj:=cC (aJ Zf (aJ RA (aJ ajz (aJ SM (aJ ajC (aJ aeJ (aJ zo (aJ afU (aJ ahg (aJ afq (aJ Y0 (aJ (UY (by decide) (by decide) (by decide) (by decide)) (aJ (Q5 (by decide) (by decide)) (aJ (LU (by decide) (by decide) (by decide) (by decide)) (aJ aiV (aJ TF bn))))))))))))))))
theorem Jc {c d:Cu}:(gB c d).n≤c.n+d.n∧(gB c d).m≤c.m+d.m:=by
 unfold gB
 split<;>dsimp only<;>omega
theorem agm {n:Nat} {a b:Rat}:jf n a b≤n:=by unfold jf;split<;>omega
theorem Ot {c:Cu} {p i j:Int} {k:Nat→Rat} {n N l:Nat} {f:Nat→Pl} {m:Mp} {b:Bool} {cx:Ctx} (hc:dY c) (hx:dY ⟨p,n,k,l,f⟩) (h41:c.m+l≤41):
  aE P cx jQ.ntmps [part nB [1,1,1,1,1]] ⟨aB iU (mB i j b),mu c p k n N l f m,5⟩ (dh cx (Fin T jQ (.bool true))):=by
 refine(aE.fin hT A1 hm 200 ahO (by kernel_rfl) ?_).mono fun _ _ h=>.inl h
 obtain⟨h1,h2,h3,h4,h5⟩:=id hc
 obtain⟨x1,x2,x3,x4,x5⟩:=id hx
 dsimp only at x1 x2 x3 x4 x5
 have hl:=h1.len
 simp only[aa.all,ax,cond_true,beq_self_eq_true]
 (repeat' with_reducible refine And.intro ?_ ?_)
 all_goals first|omega|exact cU (by decide)|exact iB (by decide)|exact hc|exact hx|exact⟨rfl,rfl,fun _ _=>rfl,rfl,fun _ _=>rfl⟩|exact .refl _|decide|skip
 all_goals first|exact Nat.lt_of_le_of_lt Jc.1 (by dsimp only;omega)|exact Nat.lt_of_le_of_lt Jc.2 (by dsimp only;omega)|exact Nat.lt_of_le_of_lt agm (by omega)|skip
theorem b6.g8 {n:Nat} {f:Nat→AV} {a d:Int} {m:Nat} (h:b6 n f a) (hd:1≤d):b6 n f (iO n f a d m):=
 (h.next.fJ (by have:=iR (n:=n) (f:=f) (a:=a) (m:=d) (by omega);unfold ke;omega)).pU _
theorem Vd {c:Cu} {p i j:Int} {k:Nat→Rat} {n l:Nat} {f:Nat→Pl} {m:Mp} {cx:Ctx} (hk:Kept [] cx) (hc:dY c) (h20:c.m≤20) (hl:l≤20):
  aq P cx jQ.ntmps oK ⟨aB iU (mB i j true),mu c p k n l l f m,5⟩ (cV (fun s'=>aE P cx jQ.ntmps [part nB [1,1,1,1,1]] s' (dh cx (Fin T jQ (.bool true)))) (dh cx (Fin T jQ (.bool true)))):=by
 obtain⟨h1,h2,h3,h4,h5⟩:=id hc
 have hlen:=h1.len
 obtain⟨F,hF⟩:∃F:Nat→Pl,F=fun q=>if q<l then f q else⟨⟨0,0,0⟩,1⟩:=⟨_,rfl⟩
 have hF1:∀q,q<l→f q=F q:=fun q hq=>by rw[hF];exact(if_pos hq).symm
 have hF2:∀q,l≤q→F q=⟨⟨0,0,0⟩,1⟩:=fun q hq=>by rw[hF];exact if_neg (by omega)
 have hv:∀{rl:List (Nat×Nat)} {a q q':Nat},aS rl 4=some a→q=q'→fc rl (.agg [.int .i64 c.p,aV c.k c.n 64,.own a 12 0 q]) (.agg [.int .i64 c.p,aV c.k c.n 64,.own 4 12 0 q']):=fun h e=>gv ⟨⟨rfl,aG rfl⟩,⟨rfl,aG rfl⟩,⟨rfl,bY h rfl e⟩,trivial⟩
 have hv3:∀{rl:List (Nat×Nat)} {a:Nat},aS rl 3=some a→fc rl (.agg [.int .i64 c.p,aV c.k c.n 64,.own a 12 0 c.m]) (.agg [.int .i64 c.p,aV c.k c.n 64,.own 3 12 0 c.m]):=fun h=>gv ⟨⟨rfl,aG rfl⟩,⟨rfl,aG rfl⟩,⟨rfl,bY h rfl rfl⟩,trivial⟩
 refine aq.iM hT A1 hm (x:=oK) [1,0] (i:=0) (y:=part oK [1,0,0,0]) (z:=part oK [1,1]) (by kernel_rfl) (by kernel_rfl) (by kernel_rfl) (by kernel_rfl) hk (f1:=[]) (f2:=[47]) 60 iU 5
  (fun _:Nat=>mB i j true) (fun q=>mu c c.p c.k c.n q q F m) (fun q=>l≤q∧q≤20) (fun q=>l≤q∧c.m≤q∧q≤20) (fun q=>20-q) (fun _=>False) ⟨_,Xs,?_⟩ (fun q hq=>⟨_,ahH,?_⟩) (fun q hq=>?_) (fun _ _ h=>h.elim)
 ·simp only[aa.all,ax]
  exact⟨by omega,l,⟨Nat.le_refl _,hl⟩,[(0,0),(1,1),(2,2),(3,3),(4,4)],rfl,rfl,rfl,aW rfl rfl rfl (fun _ _=>aD rfl rfl) (aW rfl rfl rfl (fun q hq=>aD rfl (by rw[←hF1 q hq])) (aF rfl rfl (aD rfl rfl) (aF rfl rfl (hv rfl rfl) (aF rfl rfl (hv3 rfl) trivial))))⟩
 ·simp only[aa.all,ax,decide_eq_true_eq,decide_eq_false_iff_not]
  refine⟨by omega,fun h=>⟨by omega,q+1,by omega,by dsimp only;omega,[(0,0),(1,1),(2,2),(3,3),(4,49157)],rfl,rfl,rfl,aW rfl rfl rfl (fun _ _=>aD rfl rfl) (aW rfl rfl rfl (fun r hr=>oB (y:=F) (fun _ _=>rfl) (s':=64) ?_ rfl (Nat.le_refl _) (Nat.le_refl _) hr) (aF rfl rfl (aD rfl rfl) (aF rfl rfl (hv rfl rfl) (aF rfl rfl (hv3 rfl) trivial))))⟩,
   fun h=>⟨rfl,q,by omega,[(0,0),(1,1),(2,2),(3,3),(4,4)],rfl,rfl,rfl,aW rfl rfl rfl (fun _ _=>aD rfl rfl) (aW rfl rfl rfl (fun _ _=>aD rfl rfl) (aF rfl rfl (aD rfl rfl) (aF rfl rfl (hv rfl rfl) (aF rfl rfl (hv3 rfl) trivial))))⟩⟩
  rw[hF2 q hq.1]
  exact bQ ⟨bQ ⟨bp rfl (by decide),bp rfl (by decide),bp rfl (by decide),trivial⟩,bp rfl (by decide),trivial⟩
 ·obtain⟨q1,q2,q3⟩:=hq
  refine aq.ni (aE.bk hT A1 hm 60 iU af3 (by kernel_rfl) ?_)
  simp only[aa.all,ax]
  refine⟨by omega,by omega,fun s' hs'=>?_⟩
  refine aE.weak (s2:=⟨aB iU (mB i j true),mu c c.p c.k c.n q c.m (fun r=>match r with
   |0=>⟨(c.f (c.m-1)).n,(F 0).d⟩
   |r+1=>F (r+1)) m,5⟩) rfl (eH.le ⟨[(0,0),(1,1),(2,2),(3,3),(4,4)],rfl,rfl,rfl,aW rfl rfl rfl (fun _ _=>aD rfl rfl) (aW rfl rfl rfl (fun r hr=>?_) (aF rfl rfl (aD rfl rfl) (aF rfl rfl (hv rfl (by omega)) (aF rfl rfl (hv3 rfl) trivial))))⟩ hs' hk) (Ot hc hc (by omega))
  have em:(((c.m:Int)-1).toNat+0)=c.m-1:=by omega
  cases r with
  |zero=>exact aD rfl (by rw[em];rfl)
  |succ r=>exact aD rfl rfl
set_option maxRecDepth 20000 in
set_option maxHeartbeats 1000000 in
theorem ajP {n:Nat} {z:Nat→Int} {i j:Int} {b:Bool} (K:Nat):aA P Fc K [.aj 1 n (fun i=>.int .i64 (z i)),.int .i64 i,.int .i64 j,.bool b] [] (aI (.bool true) []):=by
 refine gz (r:=aI (.bool true) []) hT Ic rfl (of_decide_eq_true (by kernel_rfl)) rfl (fun _ cx h0=>?_) K []
 have hk:=nW h0
 have hret:ng jQ iU (.bool true) ([AV.bool true,.int .i64 i,.int .i64 j,tuple [],tuple [],tuple [],tuple []],[]):=⟨[.bool true],by kernel_rfl,bA.refl _⟩
 refine aq.Y5 hT A1 hm [1,1,1,1,0,1] (by kernel_rfl) Ic.dst hk (f1:=[23]) 60 iU 5 (fun _:Unit=>mB i j (!b))
  (fun _=>mu (dB n (bJ z) 0 3 (Int.toNat 3) false) (dB n (bJ z) (iO n (bJ z) 0 3 (Int.toNat 3)) 3 (Int.toNat 3) false).p (dB n (bJ z) (iO n (bJ z) 0 3 (Int.toNat 3)) 3 (Int.toNat 3) false).k (dB n (bJ z) (iO n (bJ z) 0 3 (Int.toNat 3)) 3 (Int.toNat 3) false).n (dB n (bJ z) (iO n (bJ z) 0 3 (Int.toNat 3)) 3 (Int.toNat 3) false).m (dB n (bJ z) (iO n (bJ z) 0 3 (Int.toNat 3)) 3 (Int.toNat 3) false).m (dB n (bJ z) (iO n (bJ z) 0 3 (Int.toNat 3)) 3 (Int.toNat 3) false).f
   (afJ n (bJ z) (iO n (bJ z) (iO n (bJ z) 0 3 (Int.toNat 3)) 3 (Int.toNat 3)))) (fun _=>n≤500) ⟨_,abi,?_⟩ (fun _ hn=>?_)
 ·simp only[aa.all,ax]
  refine⟨fun h s' hs'=>hret.fin hs',fun h=>?_⟩
  have hn:n≤500:=by simp only[Bool.not_eq_false',decide_eq_true_eq]at h;omega
  have hd:b6 n (bJ z) 0:=⟨fun i=>rfl,by omega,by omega,by omega⟩
  have hd1:=hd.g8 (d:=3) (m:=Int.toNat 3) (by omega)
  have hd2:=hd1.g8 (d:=3) (m:=Int.toNat 3) (by omega)
  exact⟨⟨hd,by omega,by omega,by omega,by omega,hd1,by omega,by omega,by omega,by omega,hd2,by omega,by omega,by omega⟩,(),hn,[(0,53248),(1,57344),(2,61440),(3,32768),(4,40960)],rfl,rfl,rfl,aW rfl rfl rfl (fun _ _=>aD rfl rfl) (aW rfl rfl rfl (fun _ _=>aD rfl rfl) (aF rfl rfl (aD rfl rfl)
   (aF rfl rfl (gv ⟨⟨rfl,aG rfl⟩,⟨rfl,aG rfl⟩,⟨rfl,bY rfl rfl rfl⟩,trivial⟩) (aF rfl rfl (gv ⟨⟨rfl,aG rfl⟩,⟨rfl,aG rfl⟩,⟨rfl,bY rfl rfl rfl⟩,trivial⟩) trivial))))⟩
 ·have hd:b6 n (bJ z) 0:=⟨fun i=>rfl,by omega,by omega,by omega⟩
  have hd1:=hd.g8 (d:=3) (m:=Int.toNat 3) (by omega)
  obtain⟨k1,k2,k3,k4,k5,k6⟩:=Kf (m:=Int.toNat 3) (b:=false) hd (show(1:Int)≤3 by omega)
  obtain⟨l1,l2,l3,l4,l5,l6⟩:=Kf (m:=Int.toNat 3) (b:=false) hd1 (show(1:Int)≤3 by omega)
  obtain⟨c,hc⟩:∃c,c=dB n (bJ z) 0 3 (Int.toNat 3) false:=⟨_,rfl⟩
  obtain⟨x,hx⟩:∃x,x=dB n (bJ z) (iO n (bJ z) 0 3 (Int.toNat 3)) 3 (Int.toNat 3) false:=⟨_,rfl⟩
  have t3:Int.toNat 3=3:=rfl
  rw[←hc,t3]at k5
  rw[←hx,t3]at l5
  rw[←hc]at k1 k2 k3 k4 k6 ⊢
  rw[←hx]at l1 l2 l3 l4 l6 ⊢
  have hkc:dY c:=⟨k1,k2,by omega,by omega,k4⟩
  have hkx:dY x:=⟨l1,l2,by omega,by omega,l4⟩
  rw[show part nB [1,1,1,1,0,1]=.cond (.tmp 34) oK .skip from by kernel_rfl,show behind nB [1,1,1,1,0,1]=[part nB [1,1,1,1,1]]from by kernel_rfl]
  refine aq.cond (t:=!b) rfl (fun hb=>?_) (fun hb=>aq.skip (Ot hkc hkx (by omega)))
  rw[hb]
  exact Vd hk hkc (by omega) (by omega)
end Go.Am.B
