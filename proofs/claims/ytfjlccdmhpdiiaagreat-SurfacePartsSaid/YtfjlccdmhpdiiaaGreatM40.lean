/- brepkernellaw12.SurfaceParts. -/
import Derived.Test.YtfjlccdmhpdiiaaGreatM28
import Derived.Test.YtfjlccdmhpdiiaaGreatY16
set_option linter.unusedVariables false
noncomputable section
namespace Go.Am.B
open Go Go.Am.N AV ag aq IntKind Proofs.Tryz
theorem J2:aW 3 f3:=aT func3
def tK:aX:=nG::(6,QJ)::(7,J8)::(9,P5)::(10,E7)::(12,OS)::(13,H6)::(14,I6)::(15,HX)::(17,Lg)::(18,Kb)::(19,BE)::(KZ++F8)
abbrev Ad:Code:=aF f3
abbrev AY:Code:=part Ad [1,1,1]
abbrev rL:Code:=part Ad [1,1,1,1]
abbrev qB:Code:=part rL [1,1]
abbrev Cf:List Nat:=[2,3,5,8,9]
abbrev Fi:List Nat:=[2,3,8,9,10,11]
abbrev zU:List Nat:=[2,3,8,9]
abbrev xl:List Nat:=[8,9,22,23,26,27,28]
abbrev F2 (s:Sf) (i j a b c d:Int):aK:=⟨aA Cf [.int .i64 i,.int .i64 j,.ptr 0 0 4 0 [],.bool false,.ptr 1 0 5 0 []],[(1,⟨false,true,5,1,fun _=>bu s 64 200⟩),(0,⟨false,true,4,1,fun _=>rO a b c d⟩)],2⟩
abbrev Hs (s:Sf) (i j:Int) (x y z w:Rat):aK:=⟨aA Fi [.int .i64 i,.int .i64 j,.bool false,.ptr 0 0 5 0 [],.ptr 1 0 6 0 [],.ptr 2 0 6 0 []],[(2,⟨false,true,6,1,fun _=>dO z w 100⟩),(1,⟨false,true,6,1,fun _=>dO x y 100⟩),(0,⟨false,true,5,1,fun _=>bu s 64 200⟩)],3⟩
abbrev Eg (s:Sf) (i j:Int):aK:=⟨aA zU [.int .i64 i,.int .i64 j,.bool false,.ptr 0 0 5 0 []],[(0,⟨false,true,5,1,fun _=>bu s 64 200⟩)],1⟩
abbrev Br (N:Nat) (g:Nat->Sf) (m k:Nat):List AV:=[.bool false,.ptr 0 0 5 0 [],.ak 5 N fun q=>bu (g q) 2000 2000,.int .i64 m,.ptr 1 0 3 0 [],.ptr 2 0 3 0 [],.int .i64 k]
abbrev sD (s:Sf) (t w:Rat):aC:=[(2,tP w 258),(1,tP t 258),(0,⟨false,true,5,1,fun _=>bu s 64 200⟩)]
theorem agZ {n:Nat} {z:Nat->Int} {a b c d i j:Int}:aH T tK [33] 60 Cf (before Ad [1,1,1]) ⟨aQ 0 [.ak 1 n (gH z),rO a b c d,.int .i64 i,.int .i64 j],[],0⟩=
  let c11:Nat:=(bp (rO a b c d)).size;let c8:Prop:=0<1;let c6:Int:=aR n (aR n (0:Int));let c4:Nat:=eC n (gH z) (0:Int) (3:Int);let c3:Nat:=Int.toNat (2:Int);let c2:Nat:=eC n (gH z) (aR n (0:Int)) (3:Int);let c10:Int:=wX n (gH z) (0:Int) (3:Int) c3;let c7:AV:=ptr 0 0 c11 0 [];let c5:Nat×au:=(0,au.mk false true c11 1 fun x=>agg [int i64 a,int i64 b,int i64 c,int i64 d]);let c1:Int:=gk n (gH z) c6 c4 c3;let c9:Nat:=c2+1+ig n (gH z) c1 c3;some (fork (!decide ((↑n:Int)<=500)) (leaf ret ([int i64 i,int i64 j,c7,AV.bool true,tuple []],[c5])) (aj [dc n (gH z) (0:Int),(1:Int)<=3,(3:Int)<900,(0:Int)<=2,(2:Int)<900,c8,c8,c8] (leaf normal ([int i64 i,int i64 j,c7,AV.bool false,ptr 28672 0 5 0 []],[(28672,au.mk false true 5 1 fun j=>if(j==0)=true then bp (agg [int i64 (↑c4:Int),int i64 (↑c2:Int),ak 3 (j9 n (gH z) c6 c4 c3) fun i=>rat (m9 n (gH z) c6 c4 c3 i) 64,ak 3 (j9 n (gH z) c1 c2 c3) fun i=>rat (m9 n (gH z) c1 c2 c3 i) 64,ak 1 (c4+1+ig n (gH z) c6 c3) fun i=>aZ (fun j=>lP (cC n (gH z) c10 (3:Int)==2) n (gH z) (j0 n (gH z) (aR n c10) (i*c9+j)) i j) c9 200])else agg [int i64 0,int i64 0,nil,nil,nil]),c5])))):=ah
theorem aaY {s:Sf} {a b c d i j:Int}:aH T tK [] 60 Fi (before AY [1]) (F2 s i j a b c d)=
  let c6:Rat:=fM (fun i=>aE (rat (s.kv i) 64)) s.b c;let c5:Rat:=fM (fun i=>aE (rat (s.kv i) 64)) s.b d;let c4:Prop:=0<1;let c3:AV:=rat 0 1;let c1:Sf:=Sf.mk s.u s.v s.a (fun i=>aE (rat (s.ku i) 64)) s.b (fun i=>aE (rat (s.kv i) 64)) s.n (dn (aZ (s.f 0) s.m 200)) (fq fun i=>aZ (s.f i) s.m 200);let c2:Rat:=ff c6 c5;some (aj [c4,c4,bn (fun i=>rat (s.ku i) 64) s.a 64,bn (fun i=>rat (s.kv i) 64) s.b 64,dG (fun i=>aZ (s.f i) s.m 200) s.n 200,jW c1,c4,c4] (leaf normal ([int i64 i,int i64 j,AV.bool false,ptr 1 0 5 0 [],ptr 24578 0 6 0 [],ptr 28674 0 6 0 []],[(28674,au.mk false true 6 1 fun j=>if(j==0)=true then bp (dO (fJ c6 c5) (if a%(30:Int)=29 then c2+2 else c2) 100)else agg [c3,c3]),(24578,au.mk false true 6 1 fun j=>if(j==0)=true then bp (dO (lp c1 a b).fst (lp c1 a b).snd 100)else agg [c3,c3]),(1,au.mk false true 5 1 fun x=>bu s 64 200)]))):=ah
theorem Xj {s:Sf} {i j:Int} {x y z w:Rat}:aH T tK [51,200089,200093,200098] 60 zU (before rL [1,1]) (Hs s i j x y z w)=
  let c31:AV:=rat x 100;let c30:AV:=rat y 100;let c25:Rat:=x+gN i*(y-x);let c24:Rat:=z+gN j*(w-z);let c22:Nat:=2^40;let c17:Prop:=bn (fun i=>rat (s.ku i) 64) s.a 2000;let c16:Prop:=bn (fun i=>rat (s.kv i) 64) s.b 2000;let c15:Prop:=dG (fun i=>aZ (s.f i) s.m 200) s.n 2000;let c12:Rat:=aE (rat z 100);let c11:Rat:=aE (rat w 100);let c10:Prop:=100+((64:Nat)+((100:Nat)+100+1))+1<=2000;let c8:Prop:=0<1;let c7:ag (List AV×aC):=leaf normal ([int i64 i,int i64 j,AV.bool false,ptr 0 0 5 0 []],[(0,au.mk false true 5 1 fun x=>bu s 64 200)]);let c2:Sf:=Sf.mk s.u s.v s.a (fun i=>aE (rat (s.ku i) 64)) s.b (fun i=>aE (rat (s.kv i) 64)) s.n (dn (aZ (s.f 0) s.m 200)) (fq fun i=>aZ (s.f i) s.m 200);let c19:Prop:=bh (rat w 100) (rat c11 2000);let c18:Prop:=bh (rat z 100) (rat c12 2000);let c14:Rat:=aE c31;let c13:Rat:=aE c30;let c9:AV:=rat c14 100;let c6:AV:=rat ((c14+c13)/2) 100;let c5:Sf:=ki c2 c14 c13 c12 c11;let c29:Prop:=bh c9 (rat (aE c9) 2000);let c28:Prop:=bh c6 (rat (aE c6) 2000);let c26:List Prop:=[cO (aE c9),cO (aE c6),cO c12,cO c11,c8];let c23:Prop:=bn (fun i=>rat (c5.ku i) 2000) c5.a 2000;let c21:Prop:=bn (fun i=>rat (c5.kv i) 2000) c5.b 2000;let c20:Prop:=dG (fun i=>aZ (c5.f i) c5.m 2000) c5.n 2000;let c4:Sf:=ki c2 (aE c9) (aE c6) c12 c11;let c1:Sf:=Sf.mk c5.u c5.v c5.a (fun i=>aE (rat (c5.ku i) 2000)) c5.b (fun i=>aE (rat (c5.kv i) 2000)) c5.n (dn (aZ (c5.f 0) c5.m 2000)) (fq fun i=>aZ (c5.f i) c5.m 2000);let c3:Sf:=ki c1 (aE c9) (aE c6) c12 c11;let c27:Nat:=dn (aZ (c3.f 0) c3.m 2000);some (aj [c8,c8,c8,c17,c16,c15,bh c31 (rat c14 2000),bh c30 (rat c13 2000),c18,c19,∃s,eO s/\TW s c2,cO c14,cO c13,cO c12,cO c11,c8] (fork (ic c2 c14 c13 c12 c11==0) (aj [c8,c8,c8,c8,c8,c8] (aj [c8,bh c31 c9,bh c30 (rat c13 100),Sz ((c14+c13)/2) 100,c8,c8] (aj (c8::c8::c8::c23::c21::c20::c29::c28::c18::c19::(∃s,eO s/\TW s c1)::c26) (aj (c8::c8::c8::c17::c16::c15::c29::c28::c18::c19::(∃s,eO s/\TW s c2)::c26) (aj [c8,c8,c8,c8,c8,c8,c17,c16,c15,c23,c21,c20,c10,c10,c10,c10,de c2,de c1,¬bQ s.a (fun i=>aE (rat (s.ku i) 64)) c25,¬bQ s.b (fun i=>aE (rat (s.kv i) 64)) c24,¬bQ c5.a (fun i=>aE (rat (c5.ku i) 2000)) c25,¬bQ c5.b (fun i=>aE (rat (c5.kv i) 2000)) c24,iL c1 c25 c24=iL c2 c25 c24,(bif !true then true else ic c1 (aE c9) (aE c6) c12 c11 !=(0:Int))=false,(bif false then true else ic c2 (aE c9) (aE c6) c12 c11 !=(0:Int))=false,c8,c8,bn (fun i=>rat (c3.ku i) 2000) c3.a 2000,bn (fun i=>rat (c3.kv i) 2000) c3.b 2000,dG (fun i=>aZ (c3.f i) c3.m 2000) c3.n 2000,bn (fun i=>rat (c4.ku i) 2000) c4.a 2000,bn (fun i=>rat (c4.kv i) 2000) c4.b 2000,dG (fun i=>aZ (c4.f i) c4.m 2000) c4.n 2000,AQ (Sf.mk c3.u c3.v c3.a (fun i=>aE (rat (c3.ku i) 2000)) c3.b (fun i=>aE (rat (c3.kv i) 2000)) c3.n c27 (fq fun i=>aZ (c3.f i) c3.m 2000)) (Sf.mk c4.u c4.v c4.a (fun i=>aE (rat (c4.ku i) 2000)) c4.b (fun i=>aE (rat (c4.kv i) 2000)) c4.n (dn (aZ (c4.f 0) c4.m 2000)) (fq fun i=>aZ (c4.f i) c4.m 2000)),c3.n<c22,c27<c22,c3.a<c22,c3.b<c22] (aj [(bif false then true else !true)=false] c7)))))) c7)):=ah
theorem XD {s:Sf} {i j:Int}:aH T tK [] 60 xl (before qB [1,1,1,1,0,1]) (Eg s i j)=
  let c14:AV:=rat 0 1;let c11:Nat:=Max.max 64 64;let c10:Int:=(2:Int)^63;let c9:Nat:=Int.toNat (0:Int);let c8:Int:=(↑s.b:Int)-1;let c7:Int:=(↑s.a:Int)-1;let c3:Prop:=0<1;let c1:Sf:=Sf.mk s.u s.v s.a (fun i=>aE (rat (s.ku i) 64)) s.b (fun i=>aE (rat (s.kv i) 64)) s.n (dn (aZ (s.f 0) s.m 200)) (fq fun i=>aZ (s.f i) s.m 200);let c13:Rat:=fJ (s.kv c9) (s.kv c8.toNat);let c12:Rat:=fJ (s.ku c9) (s.ku c7.toNat);let c6:Nat:=c11+((64:Nat)+(c11+c11+1))+1;some (aj [c3,bn (fun i=>rat (s.ku i) 64) s.a 2000,bn (fun i=>rat (s.kv i) 64) s.b 2000,dG (fun i=>aZ (s.f i) s.m 200) s.n 2000,eO c1] (aj [c3,c3,((↑s.a:Int)==0)=false,(0:Int)<=0/\c9<s.a,-c10<=c7/\c7<c10,(0:Int)<=c7/\c7.toNat<s.a,c3,c3,c3,c3,((↑s.b:Int)==0)=false,(0:Int)<=0/\c9<s.b,-c10<=c8/\c8<c10,(0:Int)<=c8/\c8.toNat<s.b,c3,c3,c3,c3,c3,c3,c3,c3,c3] (aj [c3,c3,c3,c3,c3,c3] (leaf normal ([AV.bool false,ptr 0 0 5 0 [],ak 5 ((aP s.ku s.a-1)*(aP s.kv s.b-1)) fun q=>bu (fe s q) 2000 2000,int i64 0,ptr 77825 0 3 0 [],ptr 81921 0 3 0 [],int i64 0],[((81921:Nat),bP fun j_1=>if(j_1==0)=true then bp (rat (c13+gN j*(ff (s.kv c9) (s.kv c8.toNat)-c13)) c6)else c14),((77825:Nat),bP fun j=>if(j==0)=true then bp (rat (c12+gN i*(ff (s.ku c9) (s.ku c7.toNat)-c12)) c6)else c14),(0,au.mk false true 5 1 fun x=>bu s 64 200)]))))):=ah
theorem SM {s:Sf} {N m k:Nat} {g:Nat->Sf} {t w:Rat}:aH T tK [115,200123,135,139,200152] 60 xl [part qB [1,1,1,1,0,1,0,0]] ⟨aA xl (Br N g m k),sD s t w,3⟩=
  let c30:Int:=(↑m:Int)+1;let c29:AV:=ptr 2 0 3 0 [];let c28:AV:=ptr 1 0 3 0 [];let c21:Nat:=Int.toNat (0:Int);let c20:AV:=ptr 0 0 5 0 [];let c19:Nat:=Max.max 2000 2000;let c18:Int:=(↑k:Int);let c14:Prop:=258<=2000;let c13:Int:=(2:Int)^63;let c12:Sf:=Sf.mk s.u s.v s.a (fun i=>aE (rat (s.ku i) 64)) s.b (fun i=>aE (rat (s.kv i) 64)) s.n (dn (aZ (s.f 0) s.m 200)) (fq fun i=>aZ (s.f i) s.m 200);let c7:Prop:=0<1;let c4:AV:=ak 5 N fun q=>agg [int i64 (g q).u,int i64 (g q).v,ak 3 (g q).a fun i=>rat ((g q).ku i) 2000,ak 3 (g q).b fun i=>rat ((g q).kv i) 2000,ak 1 (g q).n fun i=>ak 12 (g q).m fun i_1=>bJ ((g q).f i i_1) 2000];let c2:List (Nat×au):=[((2:Nat),bP fun x=>rat w 258),((1:Nat),bP fun x=>rat t 258),(0,au.mk false true 5 1 fun x=>bu s 64 200)];let c26:Int:=c18+1;let c25:Prop:=(0:Int)<=c18/\c18.toNat<N;let c3:Sf:=g c18.toNat;let c24:Prop:=bn (fun i=>rat (c3.ku i) 2000) c3.a 2000;let c23:Prop:=bn (fun i=>rat (c3.kv i) 2000) c3.b 2000;let c22:Prop:=dG (fun i=>aZ (c3.f i) c3.m 2000) c3.n 2000;let c17:Int:=(↑c3.b:Int)-1;let c16:Int:=(↑c3.a:Int)-1;let c15:List AV:=[c28,c29,int i64 c26];let c8:Sf:=Sf.mk c3.u c3.v c3.a (fun i=>aE (rat (c3.ku i) 2000)) c3.b (fun i=>aE (rat (c3.kv i) 2000)) c3.n (dn (aZ (c3.f 0) c3.m 2000)) (fq fun i=>aZ (c3.f i) c3.m 2000);let c11:AV:=rat (ff (c3.kv c21) (c3.kv c17.toNat)) c19;let c10:AV:=rat (fJ (c3.kv c21) (c3.kv c17.toNat)) c19;let c9:ag (List AV×aC):=aj [-c13<=c26/\c26<c13] (leaf normal (AV.bool false::c20::c4::int i64 (↑m:Int)::c15,c2));let c6:AV:=rat (ff (c3.ku c21) (c3.ku c16.toNat)) c19;let c5:AV:=rat (fJ (c3.ku c21) (c3.ku c16.toNat)) c19;let c1:ag (List AV×aC):=aj [-c13<=c30/\c30<c13] (aj [c7,c25,c7,c7,c7,c7,bn (fun i=>rat (s.ku i) 64) s.a 2000,bn (fun i=>rat (s.kv i) 64) s.b 2000,dG (fun i=>aZ (s.f i) s.m 200) s.n 2000,c24,c23,c22,c14,c14,c14,c14,de c12,de c8,¬bQ s.a (fun i=>aE (rat (s.ku i) 64)) t,¬bQ s.b (fun i=>aE (rat (s.kv i) 64)) w,¬bQ c3.a (fun i=>aE (rat (c3.ku i) 2000)) t,¬bQ c3.b (fun i=>aE (rat (c3.kv i) 2000)) w,iL c8 t w=iL c12 t w] (aj [(!true)=false] (aj [-c13<=c26/\c26<c13] (leaf normal (AV.bool false::c20::c4::int i64 c30::c15,c2)))));let c32:Prop:=bh c6 (rat (aE c6) 2000);let c31:Prop:=bh c5 (rat (aE c5) 2000);let c27:Bool:=jm (aE c5) (aE c6) t;some (fork (decide (c18<(↑N:Int))) (aj [c25,c24,c23,c22,de c8] (aj [((0:Int)!=0)=false] (aj [c25,c7,((↑c3.a:Int)==0)=false,(0:Int)<=0/\c21<c3.a,-c13<=c16/\c16<c13,(0:Int)<=c16/\c16.toNat<c3.a,c7,c7,c7,c7,((↑c3.b:Int)==0)=false,(0:Int)<=0/\c21<c3.b,-c13<=c17/\c17<c13,(0:Int)<=c17/\c17.toNat<c3.b,c7,c7,c7,c7,c7,c7,c7,c7,c7] (fork c27 (aj [c7,c7,c31,c32,c14,c27=true,c7,c7,bh c10 (rat (aE c10) 2000),bh c11 (rat (aE c11) 2000),c14] (fork (bif true then jm (aE c10) (aE c11) w else false) c1 c9)) (aj [c7,c7,c31,c32,c14,c27=false] (fork false c1 c9)))))) (leaf (exit 0) ([AV.bool false,c20,c4,int i64 (↑m:Int),c28,c29,int i64 c18],c2))):=ah
theorem aa9 {s:Sf} {N m k:Nat} {g:Nat->Sf} {t w:Rat}:cy T tK [100155,100171] 60 f3 [part qB [1,1,1,1,1]] ⟨aA xl (Br N g m k),sD s t w,3⟩=
  let c4:Int:=(2:Int)^63;let c3:Int:=(↑(aP (fun i=>aE (rat (s.ku i) 64)) s.a):Int)-1;let c2:Int:=(↑(aP (fun i=>aE (rat (s.kv i) 64)) s.b):Int)-1;let c1:Int:=c3*c2;some (aj [decide ((↑m:Int)>0)=true,(0:Nat)<1,bn (fun i=>rat (s.ku i) 64) s.a 2000,s.a<2^40,∀(i:Nat),i<aP (fun i=>aE (rat (s.ku i) 64)) s.a->Sz (br (fun i=>aE (rat (s.ku i) 64)) s.a i) 2000,-c4<=c3/\c3<c4,(0:Nat)<1,bn (fun i=>rat (s.kv i) 64) s.b 2000,s.b<2^40,∀(i:Nat),i<aP (fun i=>aE (rat (s.kv i) 64)) s.b->Sz (br (fun i=>aE (rat (s.kv i) 64)) s.b i) 2000,-c4<=c2/\c2<c4,-c4<=c1/\c1<c4,(bif true then(↑N:Int)==c1 else false)=true] (leaf ret [AV.bool true])):=ah
theorem xR:bq P tK:=cz (aI aaf (aI Uk (aI TL (aI NZ (aI aeb (aI abx (aI WY (aI ajt (aI aex (aI abk (aI Uf (zM Wa MO))))))))))))
def oM (s:Sf) (t w:Rat) (q:Nat):Prop:=(jm ((fe s q).ku 0) ((fe s q).ku ((fe s q).a-1)) t&&jm ((fe s q).kv 0) ((fe s q).kv ((fe s q).b-1)) w)=true
theorem aaE {s:Sf} {i j:Int} {cx:Ctx} (hk:Kept [] cx) (hs:eO s):ax P cx f3.ntmps qB (Eg s i j) (dH cx (Fin T f3 (.bool true))):=by
 have hd:cm f3.ntmps qB=true:=ah
 have n0:(0:Nat)<1:=Nat.zero_lt_one
 have h:=hs.self
 have hok:=hs.d.ok
 obtain⟨c1,c2,c3,c4,c5,c6⟩:=h.cnt hs
 have la:=h.ku.len
 have lb:=h.kv.len
 have e1:((s.a:Int)-1).toNat=s.a-1:=aa
 have e2:((s.b:Int)-1).toNat=s.b-1:=aa
 have oU:s.ku 0<=s.ku (s.a-1):=hok.ku.mono (Nat.zero_le _) aa
 have oV:s.kv 0<=s.kv (s.b-1):=hok.kv.mono (Nat.zero_le _) aa
 obtain⟨t,ht⟩:∃t,t=fM s.ku s.a i:=⟨_,rfl⟩
 obtain⟨w,hw⟩:∃w,w=fM s.kv s.b j:=⟨_,rfl⟩
 have dt:fC t:=by rw[ht];exact(hs.d.wi i).1
 have dw:fC w:=by rw[hw];exact(hs.d.wi j).2
 obtain⟨t0,t1⟩:s.ku 0<=t/\t<=s.ku (s.a-1):=by rw[ht];exact BD oU
 obtain⟨w0,w1⟩:s.kv 0<=w/\w<=s.kv (s.b-1):=by rw[hw];exact BD oV
 have iu:¬bQ s.a s.ku t:=B6 t0 t1
 have iv:¬bQ s.b s.kv w:=B6 w0 w1
 have hN:=mX (k:=s.ku) (n:=s.a)
 have hM:=mX (k:=s.kv) (n:=s.b)
 obtain⟨N,hN0⟩:∃N,N=(aP s.ku s.a-1)*(aP s.kv s.b-1):=⟨_,rfl⟩
 have hN4:N<=400:=by
  have:=Nat.mul_le_mul (show aP s.ku s.a-1<=20 by omega) (show aP s.kv s.b-1<=20 by omega)
  omega
 have re:jN 3 [(0,0),(1,1),(2,2)] (sD s t w) (sD s t w):=aM (aM (aM trivial))
 refine ax.lQ hT xR hm (x:=qB) [1,1,1,1,0,1] (i:=0) (y:=part qB [1,1,1,1,0,1,0,0]) (z:=part qB [1,1,1,1,1]) ah ah ah hd hk (f1:=[]) (f2:=[115,200123,135,139,200152]) 60 xl 3 (fun a:Nat×Nat=>Br N (fe s) a.1 a.2) (fun _=>sD s t w) (fun a=>a.2<=N/\a.1<=a.2/\∀q,q<a.2->oM s t w q->1<=a.1) (fun a=>a.2=N/\a.1<=a.2/\∀q,q<a.2->oM s t w q->1<=a.1) (fun a=>N-a.2) (fun _=>False) ⟨_,XD,?_⟩ (fun a ha=>⟨_,SM,?_⟩) (fun a ha=>?_) (fun _ _ h=>h.elim)
 ·simp only[ag.all,az,e1,e2,Int.toNat_zero,zX oU,zX oV,z8 oU,z8 oV]
  refine⟨⟨n0,bI (by decide),bI (by decide),fc (by decide),hs⟩,?_,⟨n0,n0,n0,n0,n0,n0⟩,(0,0),⟨Nat.zero_le _,bz,fun q hq=>absurd hq (Nat.not_lt_zero q)⟩,[(0,0),(1,77825),(2,81921)],rfl,?_,rfl,dh rfl rfl (.inr ⟨rfl,dU hw.symm (dw.sz.more (by decide))⟩) (dh rfl rfl (.inr ⟨rfl,dU ht.symm (dt.sz.more (by decide))⟩) (aM trivial))⟩
  ·(repeat' with_reducible refine And.intro ?_ ?_)<;>first|omega|exact beq_eq_false_iff_ne.2 aa
  ·rw[hN0];rfl
 ·obtain⟨m,k⟩:=a
  obtain⟨a1,a2,a3⟩:=ha
  have a1:k<=N:=a1
  have a2:m<=k:=a2
  have a3:∀q,q<k->oM s t w q->1<=m:=a3
  have tk:((k:Nat):Int).toNat=k:=rfl
  simp only[tk]
  simp only[ag.all,az,bk,bt]
  refine⟨fun g=>?_,fun g=>⟨rfl,(m,k),⟨by show k=N;omega,a2,a3⟩,[(0,0),(1,1),(2,2)],rfl,rfl,rfl,re⟩⟩
  have hkN:k<N:=aa
  obtain⟨hQ,i1,i2,b1,b2,b3,b4⟩:=hs.patch (q:=k) (by rw[<-hN0];exact hkN)
  obtain⟨q1,q2,q3,q4,q5,q6⟩:=hQ.cnt hs
  have qok:=hQ.ok hs
  have qa:=hQ.ku.len
  have qb:=hQ.kv.len
  have f1:(((fe s k).a:Int)-1).toNat=(fe s k).a-1:=aa
  have f2:(((fe s k).b:Int)-1).toNat=(fe s k).b-1:=aa
  have pU:(fe s k).ku 0<=(fe s k).ku ((fe s k).a-1):=hQ.ku.mono (Nat.zero_le _) aa
  have pV:(fe s k).kv 0<=(fe s k).kv ((fe s k).b-1):=hQ.kv.mono (Nat.zero_le _) aa
  have vr:∀{r:Rat},aE (rat r 2000)=r:=rfl
  simp only[f1,f2,Int.toNat_zero,zX pU,z8 pU,zX pV,z8 pV,Nat.max_self,vr,cond_true]
  have next:∀{m':Nat},m'<=m+1->(oM s t w k->1<=m')->m<=m'->∀{k':Int},k'=((k+1:Nat):Int)->∀{mm:Int},mm=(m':Int)->∃b:Nat×Nat,(b.2<=N/\b.1<=b.2/\∀q,q<b.2->oM s t w q->1<=b.1)/\N-b.2<N-k/\dN [] ([.bool false,.ptr 0 0 5 0 [],.ak 5 N fun q=>bu (fe s q) 2000 2000,.int .i64 mm,.ptr 1 0 3 0 [],.ptr 2 0 3 0 [],.int .i64 k'],sD s t w) (Br N (fe s) b.1 b.2) (sD s t w) 3:=fun {m'} h1 h2 h3 {k'} hk' {mm} hmm=>by
   subst hk' hmm
   refine⟨(m',k+1),⟨by show k+1<=N;omega,by show m'<=k+1;omega,fun q hq hh=>?_⟩,by show N-(k+1)<N-k;omega,[(0,0),(1,1),(2,2)],rfl,rfl,rfl,re⟩
   have hq:q<k+1:=hq
   show 1<=m'
   by_cases e:q=k
   ·subst e;exact h2 hh
   ·have:=a3 q aa hh;omega
  have hz:∀{x y r:Rat},jm x y r=true->x<=r/\r<=y:=fun h=>of_decide_eq_true h
  refine⟨⟨aa,bI (by decide),bI (by decide),fc (by decide),qok⟩,by decide,?_,fun g1=>⟨⟨n0,n0,.refl _,.refl _,by decide,g1,n0,n0,.refl _,.refl _,by decide⟩,fun g2=>?_,fun g2=>⟨aa,next (m':=m) aa (fun h=>?_) bz aa rfl⟩⟩,fun g1=>⟨⟨n0,n0,.refl _,.refl _,by decide,g1⟩,fun h=>absurd h (by decide),fun _=>⟨aa,next (m':=m) aa (fun h=>?_) bz aa rfl⟩⟩⟩
  ·(repeat' with_reducible refine And.intro ?_ ?_)<;>first|omega|exact beq_eq_false_iff_ne.2 aa
  ·obtain⟨x1,x2⟩:=hz g1
   obtain⟨x3,x4⟩:=hz g2
   obtain⟨y1,y2⟩:=hQ.GC x1 x2 x3 x4
   exact⟨aa,⟨n0,aa,n0,n0,n0,n0,bI (by decide),bI (by decide),fc (by decide),bI (by decide),bI (by decide),fc (by decide),by decide,by decide,by decide,by decide,hok,qok,iu,iv,y1,y2,hQ.pt hs iu iv y1 y2⟩,by decide,aa,next (m':=m+1) bz (fun _=>aa) aa aa aa⟩
  ·unfold oM at h
   rw[g2,Bool.and_false]at h
   exact Bool.noConfusion h
  ·unfold oM at h
   rw[g1,Bool.false_and]at h
   exact Bool.noConfusion h
 ·obtain⟨m,k⟩:=a
  obtain⟨a1,a2,a3⟩:=ha
  have a1:k=N:=a1
  have a2:m<=k:=a2
  have a3:∀q,q<k->oM s t w q->1<=m:=a3
  obtain⟨p,p1,p2,p3⟩:=Ox h.ku t0 t1
  obtain⟨r,r1,r2,r3⟩:=Ox h.kv w0 w1
  have hm1:1<=m:=by
   have hq:(aP s.kv s.b-1)*p+r<N:=by
    have:=Nat.mul_le_mul_left (aP s.kv s.b-1) (show p+1<=aP s.ku s.a-1 by omega)
    rw[Nat.mul_comm (aP s.kv s.b-1) (aP s.ku s.a-1),<-hN0,Nat.mul_succ]at this
    omega
   refine a3 ((aP s.kv s.b-1)*p+r) aa ?_
   obtain⟨_,_,_,b1,b2,b3,b4⟩:=hs.patch (q:=(aP s.kv s.b-1)*p+r) (by rw[<-hN0];exact hq)
   have d1:((aP s.kv s.b-1)*p+r)/(aP s.kv s.b-1)=p:=by rw[Nat.mul_add_div aa,Nat.div_eq_of_lt aa];rfl
   have d2:((aP s.kv s.b-1)*p+r)%(aP s.kv s.b-1)=r:=by rw[Nat.mul_add_mod,Nat.mod_eq_of_lt aa]
   unfold oM
   rw[b1,b2,b3,b4,d1,d2]
   exact Bool.and_eq_true_iff.2 ⟨decide_eq_true ⟨p2,p3⟩,decide_eq_true ⟨r2,r3⟩⟩
  refine ax.gZ ((aG.fin hT xR hm 60 aa9 ah ?_).mono fun _ _ h=>.inl h)
  simp only[ag.all,az,cond_true]
  have cst:((aP s.ku s.a:Int)-1)*((aP s.kv s.b:Int)-1)=(N:Int):=by
   rw[hN0,Int.natCast_mul,show((aP s.ku s.a-1:Nat):Int)=(aP s.ku s.a:Int)-1 by omega,show((aP s.kv s.b-1:Nat):Int)=(aP s.kv s.b:Int)-1 by omega]
  refine⟨⟨decide_eq_true aa,n0,bI (by decide),aa,fun i hi=>(mB h.ku h.mu hi).sz.more (by decide),?_,n0,bI (by decide),aa,fun i hi=>(mB h.kv h.mv hi).sz.more (by decide),?_,?_,?_⟩,.refl _⟩
  ·show-2^63<=(aP s.ku s.a:Int)-1/\(aP s.ku s.a:Int)-1<2^63
   omega
  ·show-2^63<=(aP s.kv s.b:Int)-1/\(aP s.kv s.b:Int)-1<2^63
   omega
  ·show-2^63<=((aP s.ku s.a:Int)-1)*((aP s.kv s.b:Int)-1)/\((aP s.ku s.a:Int)-1)*((aP s.kv s.b:Int)-1)<2^63
   rw[cst];omega
  ·show((N:Int)==((aP s.ku s.a:Int)-1)*((aP s.kv s.b:Int)-1))=true
   rw[cst];exact beq_self_eq_true _
theorem abh {s:Sf} {i j:Int} {x y z w:Rat} {cx:Ctx} (hk:Kept [] cx) (hs:eO s) (dx:fC x) (dy:fC y) (dz:fC z) (mw:cO w):ax P cx f3.ntmps rL (Hs s i j x y z w) (dH cx (Fin T f3 (.bool true))):=by
 have hd:cm f3.ntmps rL=true:=ah
 have n0:(0:Nat)<1:=Nat.zero_lt_one
 have h:=hs.self
 have hok:=hs.d.ok
 have hx:∃s0,eO s0/\TW s0 s:=⟨s,hs,h⟩
 have b1:bn (fun i=>rat (s.ku i) 64) s.a 2000:=bI (by decide)
 have b2:bn (fun i=>rat (s.kv i) 64) s.b 2000:=bI (by decide)
 have b3:dG (fun i=>aZ (s.f i) s.m 200) s.n 2000:=fc (by decide)
 have up:∀{r:Rat},bh (rat r 100) (rat r 2000):=cB rfl (by decide)
 refine ax.hole [1,1] ah (aG.bE hT xR hm 60 zU Xj (jM hd) ?_)
 have vr:∀{r:Rat} {n:Nat},aE (rat r n)=r:=rfl
 have fin:∀{s':aK},bA zU s'=some ([.int .i64 i,.int .i64 j,.bool false,.ptr 0 0 5 0 []],[(0,⟨false,true,5,1,fun _=>bu s 64 200⟩)])->eo (fun s'=>ax P cx f3.ntmps (part rL [1,1]) s' (eo (fun s''=>aG P cx f3.ntmps (behind rL [1,1]) s'' (dH cx (Fin T f3 (.bool true)))) (dH cx (Fin T f3 (.bool true))))) (dH cx (Fin T f3 (.bool true))) .normal s':=fun {s'} hs'=>by
  rw[show behind rL [1,1]=[]from by kernel_rfl]
  exact ax.ja (s2:=Eg s i j) (dN.le ⟨[(0,0)],rfl,rfl,rfl,aM trivial⟩ hs' hk) ((aaE hk hs).mono fun e s' h=>by cases e<;>exact h)
 simp only[vr]
 simp only[ag.all,az,beq_iff_eq,beq_eq_false_iff_ne,ne_eq]
 refine⟨⟨n0,n0,n0,b1,b2,b3,up,up,up,up,hx,dx.m,dy.m,dz.m,mw,n0⟩,fun he=>?_,fun _ s' hs'=>fin hs'⟩
 obtain⟨⟨x1,x2,x3⟩,x4,x5,x6⟩:=ug.1 he
 obtain⟨m1,m2⟩:x<(x+y)/2/\(x+y)/2<=y:=by
  have e:(x+y)/2*2=x+y:=Rat.div_mul_cancel (by decide)
  constructor<;>grind
 have mm:cO ((x+y)/2):=.half dx dy
 obtain⟨p1,p2,p3,p4,p5⟩:=hs.abp (m:=(x+y)/2) he m1 m2 dx.m dy.m dz.m mw mm
 obtain⟨q1,q2⟩:=hs.part h he dx.m dy.m dz.m mw
 have q3:ki (eH s x y z w) x ((x+y)/2) z w=eH (eH s x y z w) x ((x+y)/2) z w:=if_pos p1
 have q4:ki s x ((x+y)/2) z w=eH s x ((x+y)/2) z w:=if_pos p2
 have eA:∀t:Sf,(Sf.mk t.u t.v t.a (fun i=>t.ku i) t.b (fun i=>t.kv i) t.n (dn (aZ (t.f 0) t.m 2000)) (fq fun i=>aZ (t.f i) t.m 2000))=t:=fun _=>rfl
 have eB:(Sf.mk s.u s.v s.a (fun i=>s.ku i) s.b (fun i=>s.kv i) s.n (dn (aZ (s.f 0) s.m 200)) (fq fun i=>aZ (s.f i) s.m 200))=s:=rfl
 rw[eB,q1,eA,q3,q4]
 obtain⟨g1,g2,g3,g4,g5,g6⟩:=p3.cnt hs
 obtain⟨t0,t1⟩:=BD (d:=i) (Rat.le_of_lt x1)
 obtain⟨w0,w1⟩:=BD (d:=j) (Rat.le_of_lt x4)
 obtain⟨e1,e2,e3,e4⟩:=CW (t:=s) (a:=x) (b:=y) (c:=z) (d:=w)
 obtain⟨i1,i2⟩:=h.GC (Rat.le_trans x2 t0) (Rat.le_trans t1 x3) (Rat.le_trans x5 w0) (Rat.le_trans w1 x6)
 obtain⟨i3,i4⟩:=q2.GC (by rw[e1];exact t0) (by rw[e2];exact t1) (by rw[e3];exact w0) (by rw[e4];exact w1)
 refine⟨⟨n0,n0,n0,n0,n0,n0⟩,⟨n0,.refl _,.refl _,(mm.sz).more (by decide),n0,n0⟩,⟨n0,n0,n0,bI (by decide),bI (by decide),fc (by decide),up,up,up,up,⟨s,hs,q2⟩,dx.m,mm,dz.m,mw,n0⟩,⟨n0,n0,n0,b1,b2,b3,up,up,up,up,hx,dx.m,mm,dz.m,mw,n0⟩,⟨n0,n0,n0,n0,n0,n0,b1,b2,b3,bI (by decide),bI (by decide),fc (by decide),by decide,by decide,by decide,by decide,hok,q2.ok hs,i1,i2,i3,i4,q2.pt hs i1 i2 i3 i4,?_,?_,n0,n0,bI (by decide),bI (by decide),fc (by decide),bI (by decide),bI (by decide),fc (by decide),p5,aa,?_,aa,aa⟩,rfl,fun s' hs'=>fin hs'⟩
 ·rw[p1];rfl
 ·rw[p2];rfl
 ·show(eH (eH s x y z w) x ((x+y)/2) z w).m<2^40
  omega
theorem Wd {s:Sf} {i j a b c d:Int} {cx:Ctx} (hk:Kept [] cx) (hs:eO s):ax P cx f3.ntmps AY (F2 s i j a b c d) (dH cx (Fin T f3 (.bool true))):=by
 have hd:cm f3.ntmps AY=true:=ah
 have n0:(0:Nat)<1:=Nat.zero_lt_one
 obtain⟨⟨d1,d2⟩,d3,d4⟩:=hs.d.sp a b c d
 refine ax.hole [1] ah (aG.bE hT xR hm 60 Fi aaY (jM hd) ?_)
 simp only[ag.all,az]
 refine⟨⟨n0,n0,bI (by decide),bI (by decide),fc (by decide),hs.d,n0,n0⟩,fun s' hs'=>?_⟩
 rw[show behind AY [1]=[]from by kernel_rfl]
 exact ax.ja (s2:=Hs s i j (lp s a b).1 (lp s a b).2 (m7 s a c d).1 (m7 s a c d).2) (dN.le ⟨[(0,1),(1,24578),(2,28674)],rfl,rfl,rfl,aM (aM (aM trivial))⟩ hs' hk) ((abh hk hs d1 d2 d3 d4).mono fun e s' h=>by cases e<;>exact h)
set_option maxRecDepth 20000 in
set_option maxHeartbeats 1000000 in
theorem RR {n:Nat} {z:Nat->Int} {a b c d i j:Int} (K:Nat):aS P 3 K [.ak 1 n (fun i=>.int .i64 (z i)),.agg [.int .i64 a,.int .i64 b,.int .i64 c,.int .i64 d],.int .i64 i,.int .i64 j] [] (aJ (.bool true) []):=by
 refine fX (r:=aJ (.bool true) []) hT J2 rfl aV rfl (fun _ cx h0=>?_) K []
 have hk:=jk h0
 have hsz:(bp (rO a b c d)).size=4:=ah
 have hret:oP f3 Cf (.bool true) ([AV.int .i64 i,AV.int .i64 j,.ptr 0 0 4 0 [],AV.bool true,tuple []],[(0,⟨false,true,4,1,fun _=>rO a b c d⟩)]):=⟨[.bool true],ah,bh.refl _⟩
 refine ax.hole [1,1,1] ah (aG.bE hT xR hm 60 Cf agZ (jM J2.dst) ?_)
 simp only[ag.all,az,hsz]
 refine⟨fun h s' hs'=>hret.fin hs',fun h=>?_⟩
 have hn:n<=500:=by simp only[Bool.not_eq_false',bk]at h;omega
 have hd:dc n (gH z) 0:=⟨fun i=>rfl,aa,aa,aa⟩
 obtain⟨s,hs⟩:∃s,s=Ay (iE n (gH z) 0 3 (Int.toNat 2)):=⟨_,rfl⟩
 have hD:jW s:=by rw[hs];exact Zj hd aa aa (by decide)
 have u6:=gT (n:=n) (f:=gH z) (a:=0) (m:=3) aa
 have v6:=gT (n:=n) (f:=gH z) (a:=aR n 0) (m:=3) aa
 have u0:=gJ (n:=n) (f:=gH z) (a:=0) (m:=3) aa
 have v0:=gJ (n:=n) (f:=gH z) (a:=aR n 0) (m:=3) aa
 have hG:eO s:=⟨hD,by rw[hs];show 1<=((1+cC n (gH z) 0 3).toNat:Int);omega,by rw[hs];show 1<=((1+cC n (gH z) (aR n 0) 3).toNat:Int);omega,by rw[hs];show((1+cC n (gH z) 0 3).toNat:Int)<=3;omega,by rw[hs];show((1+cC n (gH z) (aR n 0) 3).toNat:Int)<=3;omega⟩
 refine⟨⟨hd,aa,aa,aa,aa,aa,aa,aa⟩,fun s' hs'=>?_⟩
 rw[show behind Ad [1,1,1]=[]from by kernel_rfl]
 refine ax.ja (s2:=F2 s i j a b c d) (dN.le ⟨[(0,0),(1,28672)],rfl,rfl,rfl,dh rfl rfl (.inr ⟨rfl,?_⟩) (aM trivial)⟩ hs' hk) ((Wd hk hG).mono fun e s' h=>by cases e<;>exact h)
 rw[hs]
 exact UE
end Go.Am.B
