/- brepkernelmade: pole, Curve. -/
import Derived.Test.YtppeigelbecpbaaGreatY39
import Derived.Test.YtppeigelbecpbaaGreatY38
import Derived.Test.YtppeigelbecpbaaGreatY37
import Derived.Test.YtppeigelbecpbaaGreatZ2
set_option linter.unusedVariables false
namespace Go.Am.B
open Go Go.Am.N AV aa ak IntKind
theorem aa6:aP P Cb v8 (au v8):=aQ acK (by kernel_rfl) (by kernel_rfl) (by kernel_rfl)
theorem Nk:aP P wm xV (au xV):=aQ ach (by kernel_rfl) (by kernel_rfl) (by kernel_rfl)
def Oe:aS:=[(pS,iy sw),(BC,iy E5),(mR,AG)]
def pT (n:Nat) (f:Nat→AV) (a:Int) (b:Bool):Pl:=⟨⟨gi n f a,gi n f (fM n f a),if b=true then 0 else gi n f (fM n f (fM n f a))⟩,((1+cS n f (jk n f a) 3:Int):Rat)⟩
def ED (n:Nat) (f:Nat→AV) (a:Int):Int:=bA n (jk n f a)
def Gv (n:Nat) (f:Nat→AV) (a:Int) (l:List AV):Option (AV×Int×List Prop):=match l with
 |[.bool b]=>some (bI (pT n f a b) 64,ED n f a,[])
 |_=>none
def CV:aS:=nG::(pS,iy sw)::(vY,iy Gq)::(Cb,iy Gv)::[]
abbrev y6:List Nat:=[0,3,8,9,10]
abbrev Hw (b:Bool) (i:Nat):List AV:=[.ptr 0 0 2 0 [],.bool b,.ptr 1 0 3 0 [],.ptr 2 0 3 0 [],.int .i64 i]
abbrev IF (n:Nat) (z:Nat→Int) (a p:Int) (N:Nat) (k:Nat→Rat) (f:Nat→Pl) (j:Nat):aC:=
 [(3,⟨true,true,12,j,fun i=>bI (f i) 64⟩),(2,⟨false,true,3,1,fun _=>.agg [.int .i64 p,bq k N 64,.own 3 12 0 j]⟩),(1,⟨false,true,3,1,fun _=>.agg [.int .i64 0,.nil,.nil]⟩),(0,kz n z a)]
noncomputable abbrev vF:Code:=au xV
theorem SP {n:Nat} {z:Nat→Int} {a:Int} {b:Bool}:ur T Oe [8] 60 v8 (au v8) ⟨aN 0 [.ptr 0 0 2 0 [],.bool b],[(0,kz n z a)],1⟩=
  let c9:Int:=fM n (fun i↦int i64 (z i)) a;let c8:AV:=rat (gi n (fun i↦int i64 (z i)) a) 64;let c6:Int:=jk n (fun i↦int i64 (z i)) a;let c4:Prop:=0<1;let c5:AV:=rat (gi n (fun i↦int i64 (z i)) c9) 64;let c3:Option ah:=some (ah.mk false true 2 1 fun x↦agg [aj 1 n fun i↦int i64 (z i),int i64 (bA n c6)]);let c1:Int:=i64.wrap ((1:Int)+(cS n (fun i↦int i64 (z i)) c6 (3:Int)).tmod (3:Int));let c7:AV:=rat (↑c1:Rat) (Max.max 1 (bu c1.natAbs));let c2:List Prop:=[c4,cN n (fun i↦int i64 (z i)) c6,(0:Int)<(3:Int),(3:Int)<(2:Int)^62,(3:Int)≠(0:Int),-(2:Int)^63≤c1,c1<(2:Int)^63,c4];some (ag [cN n (fun i↦int i64 (z i)) a,c4] (fork b (ag [(0:Int)≤(2:Int)∧(2:Int)<(↑(3:Nat):Int),c4] (ag c2 (ag [c4] (leaf ret ([agg [agg [c8,c5,agg [AV.bool false,mag 0,mag 0]],c7]],c3))))) (ag c2 (ag [c4] (leaf ret ([agg [agg [c8,c5,rat (gi n (fun i↦int i64 (z i)) (fM n (fun i↦int i64 (z i)) c9)) 64],c7]],c3)))))):=by kernel_rfl
theorem QV {n:Nat} {z:Nat→Int} {a p m:Int} {b:Bool}:aJ T CV [] 60 y6 (before vF [1,1,1,0,1]) ⟨aN 0 [.ptr 0 0 2 0 [],.int .i64 p,.int .i64 m,.bool b],[(0,kz n z a)],1⟩=
  let c4:Prop:=0<1;let c2:AV:=agg [int i64 (0:Int),nil,nil];let c1:Int:=(1:Int)+cS n (fun i↦int i64 (z i)) a p;let c3:AV:=aT (agg (c2.kids.set 0 (aT (int i64 c1))));some (ag [cN n (fun i↦int i64 (z i)) a,(0:Int)<p,p<(2:Int)^62,-(2:Int)^63≤c1∧c1<(2:Int)^63,c4] (ag [c4,cN n (fun i↦int i64 (z i)) (bA n a),(1:Int)≤c1,c1<(1000:Int),(0:Int)≤m,m<(1000:Int),c4] (leaf normal ([ptr 0 0 2 0 [],AV.bool b,ptr 1 0 3 0 [],ptr 24577 0 3 0 [],int i64 (0:Int)],[((24577:Nat),ah.mk false true 3 1 fun j↦if(j==0)=true then agg ((if((0:Nat)==0)=true then c3 else c2).kids.set 1 (aT (bq (lR n (fun i↦int i64 (z i)) (bA n a) c1.toNat m.toNat) (mW n (fun i↦int i64 (z i)) (bA n a) c1.toNat m.toNat) 64)))else if(j==0)=true then c3 else c2),((1:Nat),ah.mk false true 3 1 fun x↦c2),((0:Nat),ah.mk false true 2 1 fun x↦agg [aj 1 n fun i↦int i64 (z i),int i64 (qw n (fun i↦int i64 (z i)) (bA n a) c1.toNat m.toNat)])])))):=by kernel_rfl
theorem acU {n N j:Nat} {z:Nat→Int} {a p:Int} {k:Nat→Rat} {f:Nat→Pl} {b:Bool}:aJ T CV [30] 60 y6 [part vF [1,1,1,0,1,0,0]] ⟨aB y6 (Hw b j),IF n z a p N k f j,4⟩=
  let c15:Int:=(↑j:Int);let c14:Int:=(↑N:Int)-p;let c13:Int:=fM n (fun i↦int i64 (z i)) a;let c12:AV:=own 3 12 0 j;let c11:AV:=aj 1 n fun i↦int i64 (z i);let c9:AV:=ptr 2 0 3 0 [];let c8:AV:=ptr 1 0 3 0 [];let c7:AV:=ptr 0 0 2 0 [];let c6:Prop:=0<1;let c5:AV:=rat 0 1;let c2:Nat×ah:=((1:Nat),ah.mk false true 3 1 fun x↦agg [int i64 (0:Int),nil,nil]);let c1:Int:=(2:Int)^63;let c10:Int:=c15+(1:Int);let c4:Int:=c14-(1:Int);let c3:AV:=agg [int i64 p,bq k N 64,c12];some (ag [c6,c6,-c1≤c14∧c14<c1,-c1≤c4∧c4<c1] (fork (decide (c15<c4)) (ag [c6,cN n (fun i↦int i64 (z i)) a,(1:Nat)*12≤2^24,(j+1)*((224:Nat)+1)*2≤2^47,c6] (ag [-c1≤c10∧c10<c1] (leaf normal ([c7,AV.bool b,c8,c9,int i64 c10],[((61444:Nat),ah.mk true true 12 (j+1) fun i↦if i<j then bI (f i) 64 else nth [agg [agg [rat (gi n (fun i↦int i64 (z i)) a) 64,rat (gi n (fun i↦int i64 (z i)) c13) 64,rat (if b=true then 0 else gi n (fun i↦int i64 (z i)) (fM n (fun i↦int i64 (z i)) c13)) 64],rat (↑((1:Int)+cS n (fun i↦int i64 (z i)) (jk n (fun i↦int i64 (z i)) a) (3:Int)):Rat) 64]] (agg [agg [c5,c5,c5],c5]) (i-j+0)),((2:Nat),ah.mk false true 3 1 fun j_1↦if(j_1==0)=true then agg (c3.kids.set 2 (aT (own (nat_lit 61443+1) 12 0 (j+1))))else c3),c2,((0:Nat),ah.mk false true 2 1 fun x↦agg [c11,int i64 (ED n (fun i↦int i64 (z i)) a)])])))) (leaf (exit 0) ([c7,AV.bool b,c8,c9,int i64 c15],[((3:Nat),ah.mk true true 12 j fun i↦agg [agg [rat (f i).n.x 64,rat (f i).n.y 64,rat (f i).n.z 64],rat (f i).d 64]),((2:Nat),ah.mk false true 3 1 fun x↦agg [int i64 p,aj 3 N fun i↦rat (k i) 64,c12]),c2,((0:Nat),ah.mk false true 2 1 fun x↦agg [c11,int i64 a])])))):=by kernel_rfl
theorem ajg {n N j:Nat} {z:Nat→Int} {a p:Int} {k:Nat→Rat} {f:Nat→Pl} {b:Bool}:B7 T CV [] 60 xV [part vF [1,1,1,1]] ⟨aB y6 (Hw b j),IF n z a p N k f j,4⟩=
  let c1:Prop:=0<1;some (ag [c1,c1] (ag [c1] (leaf ret ([agg [int i64 p,aj 3 N fun i↦rat (k i) 64,aj 12 j fun i↦agg [agg [rat (f (i+0)).n.x 64,rat (f (i+0)).n.y 64,rat (f (i+0)).n.z 64],rat (f (i+0)).d 64]]],some (ah.mk false true 2 1 fun x↦agg [aj 1 n fun i↦int i64 (z i),int i64 a]))))):=by kernel_rfl
theorem Vn:aW P Oe:=aH DI (aH SO (aH D8 bp))
theorem ac7:∀K args pre r,iy Gv K args pre=some r→aA P Cb K args pre r:=by
 refine s6 fun {k n z a l v b q o} K hg ho hd hq=>?_
 unfold Gv at hg
 split at hg
 ·rename_i b
  simp only[Option.some.injEq,Prod.mk.injEq]at hg
  obtain⟨rfl,rfl,rfl⟩:=hg
  refine CA hT Vn hm aa6 rfl rfl (of_decide_eq_true (by kernel_rfl)) ho 60 SP (fun _=>?_) K
  have a1:=gX (n:=n) (f:=fun i=>.int .i64 (z i)) (a:=jk n (fun i=>.int .i64 (z i)) a) (m:=3) (by omega)
  have a2:=ia (n:=n) (f:=fun i=>.int .i64 (z i)) (a:=jk n (fun i=>.int .i64 (z i)) a) (m:=3) (by omega)
  unfold pT
  generalize cS n (fun i=>.int .i64 (z i)) (jk n (fun i=>.int .i64 (z i)) a) 3=x at*
  have e1:x.tmod 3=x:=by rw[Int.tmod_eq_of_lt a1 a2]
  have e2:i64.wrap (1+x)=1+x:=wrap_i64 (by omega) (by omega)
  simp only[aa.all,ax,e1,e2]
  have hw:bw (.rat ((1+x:Int):Rat) (max 1 (bu (1+x).natAbs))) (.rat ((1+x:Int):Rat) 64):=ew rfl (LL (y:=0) (by omega) (by omega))
  refine⟨⟨hd,by omega⟩,fun hb=>⟨by omega,⟨by omega,hd.GU,by omega,by omega,by omega,by omega,by omega,by omega⟩,by omega,?_,_,rfl,rfl,nO rfl rfl⟩,fun hb=>⟨⟨by omega,hd.GU,by omega,by omega,by omega,by omega,by omega,by omega⟩,by omega,?_,_,rfl,rfl,nO rfl rfl⟩⟩
  ·rw[if_pos hb]
   exact cB ⟨cB ⟨.refl _,.refl _,qR (q:=(0:Rat)) ⟨by decide,by decide⟩ rfl rfl rfl,trivial⟩,hw,trivial⟩
  ·rw[if_neg (by rw[hb];decide)]
   exact cB ⟨.refl _,hw,trivial⟩
 ·simp at hg
theorem NA:aW P CV:=cL (aH DI (aH U2 (aH ac7 bp)))
def jh (n:Nat) (f:Nat→AV) (a:Int):Nat→Int
 |0=>a
 |j+1=>ED n f (jh n f a j)
theorem cN.zS {n:Nat} {f:Nat→AV} {a:Int} (h:cN n f a):∀j,cN n f (jh n f a j)
 |0=>h
 |j+1=>(h.zS j).GU.next
theorem cN.gl {n:Nat} {f:Nat→AV} {a:Int} {p m:Nat} (h:cN n f a) (hp:1≤p):cN n f (qw n f a p m):=(vh h hp _).2
def jb (n:Nat) (f:Nat→AV) (a d:Int):Nat:=(1+cS n f a d).toNat
def lp (n:Nat) (f:Nat→AV) (a d:Int) (m:Nat):Int:=qw n f (bA n a) (jb n f a d) m
def fo (n:Nat) (f:Nat→AV) (a d:Int) (m:Nat) (b:Bool):Cu:=
 ⟨(jb n f a d:Nat),mW n f (bA n a) (jb n f a d) m,lR n f (bA n a) (jb n f a d) m,jb n f a d+1+jv n f (bA n a) m,fun i=>pT n f (jh n f (lp n f a d m) i) b⟩
def F5 (n:Nat) (f:Nat→AV) (a d:Int) (m:Nat):Int:=jh n f (lp n f a d m) (jb n f a d+1+jv n f (bA n a) m)
def G4 (n:Nat) (f:Nat→AV) (a:Int) (l:List AV):Option (AV×Int×List Prop):=match l with
 |[.int .i64 d,.int .i64 m,.bool b]=>some (bh (fo n f a d m.toNat b) 64 64,F5 n f a d m.toNat,[1≤d,d<900,0≤m,m<900])
 |_=>none
theorem FO {n:Nat} {f:Nat→AV} {a:Int} {m:Nat}:jv n f a m≤m:=by
 have h1:=gX (n:=n) (f:=f) (a:=bA n a) (m:=m+1) (by omega)
 have h2:=ia (n:=n) (f:=f) (a:=bA n a) (m:=m+1) (by omega)
 unfold jv;omega
theorem aa7 {k n m:Nat} {z:Nat→Int} {a d:Int} {b:Bool} {o:ah} (ho:∀ρ,cJ ρ o (kz n z a)) (h:cN n (fun i=>.int .i64 (z i)) a) (hd1:1≤d) (hd2:d<900) (hm2:m<900) (K:Nat):
  aA P wm K [.ptr k 0 2 0 [],.int .i64 d,.int .i64 m,.bool b] [(k,o)] ⟨bh (fo n (fun i=>.int .i64 (z i)) a d m b) 64 64,[(k,kz n z (F5 n (fun i=>.int .i64 (z i)) a d m))],[]⟩:=by
 refine MJ hT Nk rfl rfl (of_decide_eq_true (by kernel_rfl)) ho (fun _ c hk=>?_) K
 have a1:=gX (n:=n) (f:=fun i=>.int .i64 (z i)) (a:=a) (m:=d) (by omega)
 have a2:=ia (n:=n) (f:=fun i=>.int .i64 (z i)) (a:=a) (m:=d) (by omega)
 have hJ:=FO (n:=n) (f:=fun i=>.int .i64 (z i)) (a:=bA n a) (m:=m)
 unfold fo F5 lp jb
 obtain⟨p,hp⟩:∃p,p=(1+cS n (fun i=>.int .i64 (z i)) a d).toNat:=⟨_,rfl⟩
 have hp2:1+cS n (fun i=>.int .i64 (z i)) a d=(p:Int):=by omega
 rw[←hp]
 have hB:=(h.next.gl (p:=p) (m:=m) (by omega))
 obtain⟨N,hN⟩:∃N,N=mW n (fun i=>.int .i64 (z i)) (bA n a) p m:=⟨_,rfl⟩
 obtain⟨kk,hkk⟩:∃kk,kk=lR n (fun i=>.int .i64 (z i)) (bA n a) p m:=⟨_,rfl⟩
 obtain⟨B,hB2⟩:∃B,B=qw n (fun i=>.int .i64 (z i)) (bA n a) p m:=⟨_,rfl⟩
 have hN2:N=2*p+2+jv n (fun i=>.int .i64 (z i)) (bA n a) m:=hN
 rw[←hN,←hkk,←hB2]
 rw[←hB2]at hB
 generalize jv n (fun i=>.int .i64 (z i)) (bA n a) m=J at*
 refine aq.jE hT NA hm [1,1,1,0,1] (i:=0) (y:=part vF [1,1,1,0,1,0,0]) (z:=part vF [1,1,1,1]) (by kernel_rfl) (by kernel_rfl) (by kernel_rfl) Nk.dst hk (f1:=[]) (f2:=[30]) 60 y6 4 (fun j:Nat=>Hw b j)
  (fun j=>IF n z (jh n (fun i=>.int .i64 (z i)) B j) p N kk (fun i=>pT n (fun i=>.int .i64 (z i)) (jh n (fun i=>.int .i64 (z i)) B i) b) j) (fun j=>j≤p+1+J) (fun j=>j=p+1+J) (fun j=>p+1+J-j) (fun _=>False) ⟨_,QV,?_⟩ (fun j hj=>⟨_,acU,?_⟩) (fun j hj=>?_) (fun _ _ h=>h.elim)
 ·simp only[aa.all,ax,hp2,Int.toNat_natCast]
  rw[←hN,←hkk,←hB2]
  exact⟨⟨h,by omega,by omega,by omega,by omega⟩,⟨by omega,h.next,by omega,by omega,by omega,by omega,by omega⟩,0,Nat.zero_le _,[(0,0),(1,1),(2,24577)],rfl,rfl,rfl,
   nT rfl (by omega) (by omega) (aF rfl rfl (kP ⟨⟨rfl,aK rfl⟩,⟨rfl,aK rfl⟩,⟨rfl,oW (by omega)⟩,trivial⟩) (aF rfl rfl (aE rfl rfl) (aF rfl rfl (aE rfl rfl) trivial)))⟩
 ·simp only[aa.all,ax,decide_eq_true_eq,decide_eq_false_iff_not]
  have hv:∀{rl:List (Nat×Nat)} {a l:Nat},aV rl 3=some a→fz rl (.agg [.int .i64 p,bq kk N 64,.own a 12 0 l]) (.agg [.int .i64 p,bq kk N 64,.own 3 12 0 l]):=fun h=>kP ⟨⟨rfl,aK rfl⟩,⟨rfl,aK rfl⟩,⟨rfl,cV h rfl rfl⟩,trivial⟩
  refine⟨⟨by omega,by omega,by omega,by omega⟩,fun h=>⟨⟨by omega,hB.zS j,by omega,by omega,by omega⟩,by omega,j+1,by omega,by dsimp only;omega,[(0,0),(1,1),(2,2),(3,61444)],rfl,rfl,rfl,
   bB rfl rfl rfl (fun i hi=>BH (y:=fun i=>pT n (fun i=>.int .i64 (z i)) (jh n (fun i=>.int .i64 (z i)) B i) b) (fun _ _=>rfl) (.refl _) rfl (Nat.le_refl _) (Nat.le_refl _) hi) (aF rfl rfl (hv rfl) (aF rfl rfl (aE rfl rfl) (aF rfl rfl (aE rfl rfl) trivial)))⟩,
   fun h=>⟨rfl,j,by omega,[(0,0),(1,1),(2,2),(3,3)],rfl,rfl,rfl,bB rfl rfl rfl (fun _ _=>aE rfl rfl) (aF rfl rfl (hv rfl) (aF rfl rfl (aE rfl rfl) (aF rfl rfl (aE rfl rfl) trivial)))⟩⟩
 ·subst hj
  refine aq.jK (aD.K4 hT NA hm 60 ajg (by kernel_rfl) ?_)
  simp only[aa.all,ax]
  exact⟨by omega,by omega,.refl _,_,rfl,rfl,nO rfl rfl⟩
theorem RP:∀K args pre r,iy G4 K args pre=some r→aA P wm K args pre r:=by
 refine s6 fun {k n z a l v b q o} K hg ho hd hq=>?_
 unfold G4 at hg
 split at hg
 ·rename_i d m b
  simp only[Option.some.injEq,Prod.mk.injEq]at hg
  obtain⟨rfl,rfl,rfl⟩:=hg
  obtain⟨h1,h2,h3,h4⟩:=hq
  have h4:m<900:=h4
  have:=aa7 (k:=k) (m:=m.toNat) (b:=b) ho hd h1 h2 (by omega) K
  rw[Int.toNat_of_nonneg h3]at this
  exact this
 ·simp at hg
theorem Hp {n m:Nat} {f:Nat→AV} {a d:Int} {b:Bool} (h:cN n f a) (hd:1≤d):Kn (fo n f a d m b).n (fo n f a d m b).p.toNat (fo n f a d m b).k∧1≤(fo n f a d m b).p∧(fo n f a d m b).p≤d∧((fo n f a d m b).m:Int)=((fo n f a d m b).n:Int)-(fo n f a d m b).p-1∧
  (fo n f a d m b).m≤(fo n f a d m b).p.toNat+1+m∧∀i,1≤((fo n f a d m b).f i).d∧((fo n f a d m b).f i).d≤3:=by
 have a1:=gX (n:=n) (f:=f) (a:=a) (m:=d) (by omega)
 have a2:=ia (n:=n) (f:=f) (a:=a) (m:=d) (by omega)
 have hJ:=FO (n:=n) (f:=f) (a:=bA n a) (m:=m)
 unfold fo
 obtain⟨p,hp⟩:∃p,p=jb n f a d:=⟨_,rfl⟩
 have hp2:1+cS n f a d=(p:Int):=by rw[hp];unfold jb;omega
 rw[←hp]
 dsimp only
 refine⟨?_,by omega,by omega,?_,by omega,fun i=>?_⟩
 ·rw[Int.toNat_natCast]
  exact(vh h.next (by omega) _).1.done
 ·have:mW n f (bA n a) p m=2*p+2+jv n f (bA n a) m:=rfl
  omega
 ·have c1:=gX (n:=n) (f:=f) (a:=jk n f (jh n f (lp n f a d m) i)) (m:=3) (by omega)
  have c2:=ia (n:=n) (f:=f) (a:=jk n f (jh n f (lp n f a d m) i)) (m:=3) (by omega)
  unfold pT
  dsimp only
  generalize cS n f (jk n f (jh n f (lp n f a d m) i)) 3=x at*
  exact⟨by exact_mod_cast (show 1≤1+x by omega),by exact_mod_cast (show 1+x≤3 by omega)⟩
end Go.Am.B

/- brepkernellaw10.CurveEvals. -/
namespace Go.Am.B
open Go Go.Am.N AV aa ak IntKind
end Go.Am.B

/- surface: copied, each, Swap, IsoV, ends, Domain. -/
namespace Go.Am.B
open Go Go.Am.N AV aa ak IntKind
theorem zo.swap {s:Sf} (h:zo s):zo (NZ s):=⟨h.kv,h.ku,h.v0,h.v6,h.u0,h.u6,h.b,h.a,h.m,h.n,fun i j hi hj=>h.w j i hj hi⟩
end Go.Am.B

/- Parts of spans; where a parameter within a span lies. -/
namespace Go.Am.B
open Go Go.Am.N AV aa ak IntKind
end Go.Am.B

/- brepkernellaw10.CurveHull. -/
namespace Go.Am.B
open Go Go.Am.N AV aa ak IntKind
end Go.Am.B

/- ref12: IsoV, IsoU, Eval at any parameters; program and reference say the same. -/
namespace Go.Am.B
open Go Go.Am.N AV aa ak IntKind
theorem zo.weak {s:Sf} (h:zo s):BP s:=⟨h.ku,h.kv,h.u0,h.u6,h.v0,h.v6,by have:=h.a;have:=h.u6;omega,by have:=h.b;have:=h.v6;omega,h.n,h.m⟩
theorem BP.swap {s:Sf} (h:BP s):BP (NZ s):=⟨h.kv,h.ku,h.v0,h.v6,h.u0,h.u6,h.b,h.a,h.m,h.n⟩
end Go.Am.B

/- The closures of surface.Check. -/
namespace Go.Am.B
open Go Go.Am.N AV aa ak IntKind
end Go.Am.B

/- slices.Grow, Concat of numbers; law12.awake. -/
namespace Go.Am.B
open Go Go.Am.N AV aa ak IntKind
end Go.Am.B

/- brepkernelmade: Surface. -/
namespace Go.Am.B
open Go Go.Am.N AV aa ak IntKind
end Go.Am.B

/- ref10.SamePoles, Same at the sizes of curves on surfaces. -/
namespace Go.Am.B
open Go Go.Am.N AV aa ak IntKind
theorem Rh:aP P yM yF (au yF):=aQ acn (by kernel_rfl) (by kernel_rfl) (by kernel_rfl)
theorem ae6:aP P Ea xj (au xj):=aQ XL (by kernel_rfl) (by kernel_rfl) (by kernel_rfl)
noncomputable def Ly:aS:=[(J7,kX T (sG::nL) [100010,100017] 60 Qn)]
noncomputable def D5:aS:=nG::(Ly++nL)
noncomputable abbrev Ac:Code:=au yF
abbrev Fm (n m:Nat) (f g:Nat→Pl) (i:Nat):List AV:=[iW f n sE,iW g m sE,.bool false,.int .i64 i]
def Ld:Spec:=cD (kC (rZ sE) (kC (rZ sE) kN)) (fun _=>.bool true) fun a=>[a.1.1<2^30,a.1.1=a.2.1.1,∀i,i<a.1.1→a.1.2 i=a.2.1.2 i]
noncomputable def KF:aS:=nG::(vq,OZ)::(yM,Ld)::[]
noncomputable def Mx:Spec:=cD (kC (ij sK sE) (kC (ij sK sE) kN)) (fun _=>.bool true) fun a=>[a.1=a.2.1,a.1.n<2^30,a.1.m<2^30]
theorem ajN {n m:Nat} {f g:Nat→Pl}:aJ T D5 [200010] 60 [0,1,4,5] (before Ac [1,1,0,1]) ⟨aN 0 [iW f n sE,iW g m sE],[],0⟩=
  some (ag [((↑n:Int)!=(↑m:Int))=false] (leaf normal ([aj 12 n fun i↦agg [agg [rat (f i).n.x 4294967298,rat (f i).n.y 4294967298,rat (f i).n.z 4294967298],rat (f i).d 4294967298],aj 12 m fun i↦agg [agg [rat (g i).n.x 4294967298,rat (g i).n.y 4294967298,rat (g i).n.z 4294967298],rat (g i).d 4294967298],AV.bool false,int i64 (0:Int)],[]))):=by kernel_rfl
theorem SX {n m i:Nat} {f g:Nat→Pl}:aJ T D5 [14,200029,200042] 60 [0,1,4,5] [part Ac [1,1,0,1,0,0]] ⟨aB [0,1,4,5] (Fm n m f g i),[],0⟩=
  let c4:Int:=(↑i:Int);let c3:AV:=aj 12 n fun i↦agg [agg [rat (f i).n.x 4294967298,rat (f i).n.y 4294967298,rat (f i).n.z 4294967298],rat (f i).d 4294967298];let c2:AV:=aj 12 m fun i↦agg [agg [rat (g i).n.x 4294967298,rat (g i).n.y 4294967298,rat (g i).n.z 4294967298],rat (g i).d 4294967298];let c8:Int:=c4+(1:Int);let c5:Prop:=(0:Int)≤c4;let c1:Nat:=c4.toNat;let c7:V3:=(g c1).n;let c6:V3:=(f c1).n;some (fork (decide (c4<(↑n:Int))) (ag [c5∧c1<n,c5∧c1<m,decide (c6.x=c7.x)=true,(bif true then decide (c6.y=c7.y)else false)=true,(!bif true then decide (c6.z=c7.z)else false)=false,c5∧c1<n,c5∧c1<m] (ag [(bif false then true else !decide ((f c1).d=(g c1).d))=false] (ag [-(2:Int)^63≤c8∧c8<(2:Int)^63] (leaf normal ([c3,c2,AV.bool false,int i64 c8],[]))))) (leaf (exit 0) ([c3,c2,AV.bool false,int i64 c4],[]))):=by kernel_rfl
theorem ajI {n m i:Nat} {f g:Nat→Pl}:bY T D5 [] 60 yF [part Ac [1,1,1]] ⟨aB [0,1,4,5] (Fm n m f g i),[],0⟩=
  some (leaf ret [AV.bool true]):=by kernel_rfl
theorem ZE {c d:Cu}:bC T KF [100010,100017] 60 xj (au xj) ⟨aN 0 [bh c sK sE,bh d sK sE],[],0⟩=
  let c1:Prop:=0<1;some (ag [c1,c1,(c.p==d.p)=true,c1,c1,bK (fun i↦rat (c.k i) sK) c.n sU,bK (fun i↦rat (d.k i) sK) d.n sU,c.n<2^40,d.n<2^40,(bif true then AM c.n (fun i↦aO (rat (c.k i) sK)) d.n fun i↦aO (rat (d.k i) sK)else false)=true,c1,c1,fj (fun i↦bI (c.f i) sE) c.m sE,fj (fun i↦bI (d.f i) sE) d.m sE,c.m<2^30,c.m=d.m,∀(i:Nat),i<c.m→fI (bI (c.f i) sE)=fI (bI (d.f i) sE)] (leaf ret [AV.bool true])):=by kernel_rfl
theorem Rt:aW P Ly:=aH (mE hT (mT oG) hm (aQ YJ (by kernel_rfl) (by kernel_rfl) (by kernel_rfl)) _ _) bp
theorem X5:aW P D5:=cL (sO Rt oG)
theorem adS {n m:Nat} {f g:Nat→Pl} (hn:n<2^30) (hm2:n=m) (he:∀i,i<n→f i=g i) (K:Nat):aA P yM K [iW f n sE,iW g m sE] [] (aG (.bool true) []):=by
 refine fD (r:=aG (.bool true) []) hT X5 hm Rh rfl (of_decide_eq_true (by kernel_rfl)) rfl [1,1,0,1] (i:=0) (y:=part Ac [1,1,0,1,0,0]) (z:=part Ac [1,1,1]) (by kernel_rfl) (by kernel_rfl) (by kernel_rfl) (f1:=[200010]) (f2:=[14,200029,200042]) (f3:=[]) 60 [0,1,4,5] 0
  (fun i:Nat=>Fm n m f g i) (fun _=>[]) (fun i=>i≤n) (fun i=>i=n) (fun i=>n-i) (fun _=>⟨⟨_,ajN,?_⟩,fun i h1=>⟨_,SX,?_⟩,fun i h1=>⟨_,ajI,?_⟩⟩) K []
 all_goals try simp only[aa.all,ax,decide_eq_true_eq,decide_eq_false_iff_not,Int.toNat_natCast]
 ·exact⟨bne_eq_false_iff_eq.2 (by omega),0,Nat.zero_le _,.vals rfl⟩
 ·refine⟨fun h=>?_,fun h=>⟨rfl,i,by omega,.vals rfl⟩⟩
  have e:=he i (by omega)
  exact⟨⟨by omega,by omega,by rw[e],decide_eq_true (congrArg (fun p:Pl=>p.n.y) e),congrArg (!·) (decide_eq_true (congrArg (fun p:Pl=>p.n.z) e)),by omega,by omega⟩,congrArg (!·) (decide_eq_true (congrArg (fun p:Pl=>p.d) e)),by omega,i+1,by omega,by dsimp only;omega,.vals rfl⟩
 ·exact .refl _
theorem X7:∀K args pre r,Ld K args pre=some r→aA P yM K args pre r:=cj fun _ K hn=>adS hn.1 hn.2.1 hn.2.2 K
theorem aaU:aW P KF:=cL (aH ajc (aH X7 bp))
theorem aen:∀K args pre r,Mx K args pre=some r→aA P Ea K args pre r:=cj fun⟨c,d,_⟩ K hn=>by
 obtain⟨h1,h2,h3⟩:=hn
 have h1:c=d:=h1
 have h2:c.n<2^30:=h2
 have h3:c.m<2^30:=h3
 subst h1
 refine bJ (r:=aG (.bool true) []) hT aaU hm ae6 rfl (of_decide_eq_true (by kernel_rfl)) rfl 60 ZE (fun _=>?_) K []
 have hs:AM c.n (fun i=>aO (rat (c.k i) sK)) c.n (fun i=>aO (rat (c.k i) sK))=true:=decide_eq_true ⟨rfl,fun _ _=>rfl⟩
 simp only[aa.all,ax,hs,cond_true]
 (repeat' with_reducible refine And.intro ?_ ?_)
 all_goals first|omega|exact beq_self_eq_true _|exact ct (by decide)|exact gU (Nat.le_refl _)|exact h2|exact h3|exact fun _ _=>rfl|exact fun _ _=>trivial|trivial|exact .refl _|skip
end Go.Am.B

/- Plain laws of splines: at a knot both sides give the same value. -/
namespace Go.Am.B
def dF (k:Nat→Rat) (j:Nat):Nat→Int
 |0=>-1
 |l+1=>if k (j+l)=k (j+l+1)then dF k j l else(j+l:Nat)
theorem Jz {k:Nat→Rat} {j:Nat}:∀{l:Nat},k j≠k (j+l)→∃P:Nat,dF k j l=(P:Int)∧j≤P∧P<j+l∧k P≠k (P+1)
 |0,h=>absurd rfl h
 |l+1,h=>by
  unfold dF
  by_cases he:k (j+l)=k (j+l+1)
  ·rw[if_pos he]
   obtain⟨P,h1,h2,h3,h4⟩:=Jz (k:=k) (j:=j) (l:=l) (by rw[he];exact h)
   exact⟨P,h1,h2,by omega,h4⟩
  ·rw[if_neg he]
   exact⟨j+l,rfl,by omega,by omega,he⟩
theorem Kn.piece {n p:Nat} {k:Nat→Rat} (h:Kn n p k) {j:Nat} (hj:j+p+1<n):∃P:Nat,dF k j (p+1)=(P:Int)∧j≤P∧P≤j+p∧k P<k (P+1)∧p≤P∧P+p+1<n:=by
 have hp:=h.p1
 have hne:k j≠k (j+(p+1)):=by
  have hlt:k j<k (j+(p+1)):=by
   by_cases h0:j=0
   ·subst h0
    have hl:=h.len
    have a1:=h.mult 1 (by omega) (by omega)
    rw[h.first 1 (by omega),show 1+p=0+(p+1) by omega]at a1
    exact a1
   ·have a1:=h.mult j (by omega) (by omega)
    have a2:=h.mono (show j+p≤j+(p+1) by omega) (by omega)
    grind
  grind
 obtain⟨P,h1,h2,h3,h4⟩:=Jz hne
 have hs:=h.sorted P (by omega)
 refine⟨P,h1,h2,by omega,by grind,?_,?_⟩
 ·rcases Nat.lt_or_ge P p with hh|hh
  ·exact absurd (by rw[h.first P (by omega),h.first (P+1) (by omega)]) h4
  ·exact hh
 ·rcases Nat.lt_or_ge (P+p+1) n with hh|hh
  ·exact hh
  ·exact absurd (by rw[h.last P (by omega) (by omega),h.last (P+1) (by omega) (by omega)]) h4
theorem HV {k:Nat→Rat} {c:Nat}:∀{l a:Nat},bQ (fun i=>k (c+i)) a l=bQ k (c+a) l
 |0,_=>rfl
 |l+1,a=>by rw[bQ,bQ,HV];rfl
theorem AO {f g:Nat→Rat}:∀{l a:Nat},(∀i,a≤i→i<a+l→f i=g i)→bQ f a l=bQ g a l
 |0,_,_=>rfl
 |l+1,a,h=>by rw[bQ,bQ,h a (by omega) (by omega),AO fun i h1 h2=>h i (by omega) (by omega)]
end Go.Am.B

/- Plain laws of a knot that is inserted: the new coefficients, by polar forms (Boehm). -/
namespace Go.Am.B
variable {k:Nat→Rat} {b p:Nat}
theorem ahB {a c u v f:Rat}:fr a c (u+f*(v-u))=fr a c u+f*(fr a c v-fr a c u):=by
 unfold fr
 rw[Rat.div_def,Rat.div_def (u-a),Rat.div_def (v-a)]
 generalize (c-a)⁻¹=q
 grind
theorem LD {f:Rat}:∀{l:List Rat} {r:Nat} {x y:Nat→Rat} {j:Nat},bl k b p r (fun j=>x j+f*(y j-x j)) l j=bl k b p r x l j+f*(bl k b p r y l j-bl k b p r x l j)
 |[],_,_,_,_=>rfl
 |t::l,r,x,y,j=>by
  rw[bl,bl,bl,←LD (l:=l)]
  congr 1
  funext j
  unfold gn
  split<;>grind
theorem OV {u v f:Rat} {l:List Rat} {x:Nat→Rat} (hl:l.length+1=p):bl k b p 0 x ((u+f*(v-u))::l) p=bl k b p 0 x (u::l) p+f*(bl k b p 0 x (v::l) p-bl k b p 0 x (u::l) p):=by
 rw[bl,bl,bl,←LD]
 refine G9 (by omega) fun j h1 _=>?_
 simp only[gn]
 rw[if_pos (by omega),if_pos (by omega),if_pos (by omega),ahB];grind
theorem FW {a c t:Rat} (h:a<c):a+fr a c t*(c-a)=t:=by rw[l6 h];grind
def cK (k:Nat→Rat) (t:Rat) (q j:Nat):Rat:=if j<q then k j else if j=q then t else k (j-1)
theorem gP {t:Rat} {q j:Nat} (h:j<q):cK k t q j=k j:=if_pos h
theorem nQ {t:Rat} {q:Nat}:cK k t q q=t:=by unfold cK;rw[if_neg (by omega),if_pos rfl]
theorem gW {t:Rat} {q j:Nat} (h:q<j):cK k t q j=k (j-1):=by unfold cK;rw[if_neg (by omega),if_neg (by omega)]
theorem Iu {f g:Nat→Rat}:∀{l a:Nat},(∀i,a+1≤i→i<a+1+l→f i=g (i-1))→bQ f (a+1) l=bQ g a l
 |0,_,_=>rfl
 |l+1,a,h=>by
  rw[bQ,bQ,h (a+1) (Nat.le_refl _) (by omega),Iu (l:=l) (a:=a+1) fun i h1 h2=>h i (by omega) (by omega)];rfl
theorem wO {n:Nat} {P J:Nat} {x:Nat→Rat} (h:At n k P) (hP:p≤P) (hP2:P+p<n) (h1:P≤J+p) (h2:J≤P):bl k (P-p) p 0 (fun q=>x (P-p+q)) (bQ k (J+1) p) p=x J:=by
 have:=aar (k:=k) (b:=P-p) (p:=p) (n:=n) (by rwa [show P-p+p=P by omega]) (by omega) (J:=J-(P-p)) (by omega) (x:=fun q=>x (P-p+q))
 rw[show P-p+(J-(P-p))=J by omega]at this
 exact this
theorem ZD {n:Nat} {x:Nat→Rat} {t:Rat} {a j P:Nat} (hs:∀i,i+1<n→k i≤k (i+1)) (hp:1≤p) (hlo:k a≤t) (hhi:t<k (a+1)) (ha:p≤a) (h:At n k P) (hP:p≤P) (hP2:P+p<n)
  (h1:j+p≤a→j≤P∧P≤j+p) (h2:a<j→j≤P+1∧P+1≤j+p) (h3:a<j+p→j≤a→j≤P∧P+1≤j+p):
  bl k (P-p) p 0 (fun q=>x (P-p+q)) (bQ (cK k t (a+1)) (j+1) p) p=if j+p≤a then x j else if a<j then x (j-1)else x (j-1)+fr (k j) (k (j+p)) t*(x j-x (j-1)):=by
 by_cases c1:j+p≤a
 ·obtain⟨g1,g2⟩:=h1 c1
  rw[if_pos c1,AO (g:=k) fun i _ hi=>gP (by omega)]
  exact wO h hP hP2 g2 g1
 ·rw[if_neg c1]
  by_cases c2:a<j
  ·obtain⟨g1,g2⟩:=h2 c2
   rw[if_pos c2,Iu (g:=k) fun i hi _=>gW (by omega)]
   have:=wO (x:=x) (J:=j-1) h hP hP2 (by omega) (by omega)
   rwa [show j-1+1=j by omega]at this
  ·obtain⟨g1,g2⟩:=h3 (by omega) (by omega)
   rw[if_neg c2]
   have hA:At n k (P-p+p):=by rwa [show P-p+p=P by omega]
   have e1:bQ (cK k t (a+1)) (j+1) p=bQ k (j+1) (a-j)++t::bQ k (a+1) (j+p-a-1):=by
    have:=CX (t:=cK k t (a+1)) (l:=a-j) (a:=j+1) (m:=(j+p-a-1)+1)
    rw[show a-j+(j+p-a-1+1)=p by omega,show j+1+(a-j)=a+1 by omega]at this
    rw[this,AO (g:=k) (fun i _ hi=>gP (by omega)),bQ,nQ,Iu (g:=k) fun i hi _=>gW (by omega)]
   have e2:bQ k (j+1) (p-1)=bQ k (j+1) (a-j)++bQ k (a+1) (j+p-a-1):=by
    have:=CX (t:=k) (l:=a-j) (a:=j+1) (m:=j+p-a-1)
    rw[show a-j+(j+p-a-1)=p-1 by omega,show j+1+(a-j)=a+1 by omega]at this
    exact this
   have hw:k j<k (j+p):=by
    have m1:=fS hs (show j≤a by omega) (show a<n by omega)
    have m2:=fS hs (show a+1≤j+p by omega) (show j+p<n by omega)
    grind
   have q1:(bQ (cK k t (a+1)) (j+1) p).Perm (t::bQ k (j+1) (p-1)):=by rw[e1,e2];exact List.perm_middle
   rw[BV hA (by omega) q1 (by rw[kT];omega),←FW (t:=t) hw,OV (by rw[kT];omega)]
   have d1:=wO (x:=x) (J:=j-1) h hP hP2 (by omega) (by omega)
   rw[show j-1+1=j by omega,show p=p-1+1 by omega,bQ]at d1
   have d2:=wO (x:=x) (J:=j) h hP hP2 (by omega) (by omega)
   have q2:(bQ k (j+1) p).Perm (k (j+p)::bQ k (j+1) (p-1)):=by
    have:=Br (t:=k) (l:=p-1) (a:=j+1)
    rw[show p-1+1=p by omega,show j+1+(p-1)=j+p by omega]at this
    rw[this];exact List.perm_append_singleton _ _
   rw[BV hA (by omega) q2 (by rw[kT];omega)]at d2
   rw[show p-1+1=p by omega]at d1
   rw[d1,d2,FW hw]
theorem On {n:Nat} {G:List Rat→Rat} (hsym:∀{l m:List Rat},l.Perm m→l.length=p→G l=G m) (haff:∀{u v f:Rat} {l:List Rat},l.length+1=p→G ((u+f*(v-u))::l)=G (u::l)+f*(G (v::l)-G (u::l)))
  (h:At n k (b+p)) (hn:b+p+p<n):∀{l d:List Rat} {r:Nat} {y:Nat→Rat},d.length=r→r+l.length=p→(∀j,r≤j→j≤p→y j=G (d++bQ k (b+j+1) (p-r)))→bl k b p r y l p=G (d++l)
 |[],d,r,y,hd,hl,hy=>by
  have:=hy p (by simp at hl;omega) (Nat.le_refl _)
  rw[show p-r=0 by simp at hl;omega]at this
  exact this
 |t::l,d,r,y,hd,hl,hy=>by
  simp only[List.length_cons]at hl
  have hdt:(d++[t]).length=r+1:=by simp[hd]
  have:=On hsym haff h hn (l:=l) (d:=d++[t]) (r:=r+1) (y:=gn k b p r t y) hdt (by omega) fun j h1 h2=>by
   unfold gn
   rw[if_pos (by omega),hy j (by omega) h2,hy (j-1) (by omega) (by omega)]
   have hw:=h.around (a:=b+j) (b:=b+j+(p-r)) (by omega) (by omega) (by omega)
   have e1:(d++bQ k (b+(j-1)+1) (p-r)).Perm (k (b+j)::(d++bQ k (b+j+1) (p-(r+1)))):=by
    rw[show b+(j-1)+1=b+j by omega,show p-r=p-(r+1)+1 by omega,bQ];exact List.perm_middle
   have e2:(d++bQ k (b+j+1) (p-r)).Perm (k (b+j+(p-r))::(d++bQ k (b+j+1) (p-(r+1)))):=by
    rw[show p-r=p-(r+1)+1 by omega,Br,show b+j+1+(p-(r+1))=b+j+(p-(r+1)+1) by omega,←List.append_assoc];exact List.perm_append_singleton _ _
   have e3:(d++[t]++bQ k (b+j+1) (p-(r+1))).Perm (t::(d++bQ k (b+j+1) (p-(r+1)))):=by
    rw[List.append_assoc];exact List.perm_middle
   have hlen:(d++bQ k (b+j+1) (p-(r+1))).length+1=p:=by rw[List.length_append,kT,hd];omega
   rw[hsym e1 (by rw[List.length_append,kT,hd];omega),hsym e2 (by rw[List.length_append,kT,hd];omega),hsym e3 (by rw[List.length_append,kT,hdt];omega),←haff hlen,FW hw]
  rw[bl,this,List.append_assoc];rfl
def lO (k:Nat→Rat) (p:Nat) (x:Nat→Rat) (P:Nat) (l:List Rat):Rat:=bl k (P-p) p 0 (fun q=>x (P-p+q)) l p
theorem RQ {n N:Nat} {K X x:Nat→Rat} {P Q:Nat} (h:At n k P) (hP:p≤P) (hP2:P+p<n) (H:At N K Q) (hQ:p≤Q) (hQ2:Q+p<N) (hx:∀J,J≤Q→Q≤J+p→X J=lO k p x P (bQ K (J+1) p)) {l:List Rat} (hl:l.length=p):lO K p X Q l=lO k p x P l:=by
 have hA:At n k (P-p+p):=by rwa [show P-p+p=P by omega]
 have:=On (k:=K) (b:=Q-p) (p:=p) (n:=N) (G:=lO k p x P) (fun {l m} hm hl=>BV hA (by omega) hm (by omega)) (fun {u v f l} hl=>OV hl) (by rwa [show Q-p+p=Q by omega]) (by omega) (l:=l) (d:=[]) (r:=0) (y:=fun q=>X (Q-p+q)) rfl (by omega) fun j _ h2=>by
  rw[hx (Q-p+j) (by omega) (by omega)];rfl
 exact this
def fU (k:Nat→Rat) (p:Nat) (x:Nat→Rat) (t:Rat) (a j:Nat):Rat:=if j+p≤a then x j else if a<j then x (j-1)else x (j-1)+fr (k j) (k (j+p)) t*(x j-x (j-1))
def gp (a Q:Nat):Nat:=if Q≤a then Q else Q-1
theorem QE {n:Nat} {x:Nat→Rat} {t:Rat} {a j Q:Nat} (hs:∀i,i+1<n→k i≤k (i+1)) (hp:1≤p) (hlo:k a≤t) (hhi:t<k (a+1)) (ha:p≤a) (h:At n k (gp a Q)) (hP:p≤gp a Q) (hP2:gp a Q+p<n) (h1:j≤Q) (h2:Q≤j+p):
  lO k p x (gp a Q) (bQ (cK k t (a+1)) (j+1) p)=fU k p x t a j:=by
 refine ZD hs hp hlo hhi ha h hP hP2 ?_ ?_ ?_<;>unfold gp<;>split<;>omega
theorem aiW {n:Nat} {x:Nat→Rat} {t:Rat} {a Q:Nat} (hs:∀i,i+1<n→k i≤k (i+1)) (hp:1≤p) (hlo:k a≤t) (hhi:t<k (a+1)) (ha:p≤a) (h:At n k (gp a Q)) (hP:p≤gp a Q) (hP2:gp a Q+p<n) (H:At (n+1) (cK k t (a+1)) Q) (hQ:p≤Q) (hQ2:Q+p<n+1) {l:List Rat} (hl:l.length=p):
  lO (cK k t (a+1)) p (fU k p x t a) Q l=lO k p x (gp a Q) l:=
 RQ h hP hP2 H hQ hQ2 (fun J h1 h2=>(QE hs hp hlo hhi ha h hP hP2 h1 h2).symm) hl
end Go.Am.B

/- Plain laws of valid gl: one more of them. -/
namespace Go.Am.B
theorem pB {k:Nat→Rat} {t:Rat} {n:Nat}:aU k t (n+1)=aU k t n+if k n=t then 1 else 0:=rfl
theorem Ey {k:Nat→Rat} {t:Rat} {n:Nat}:∀{m:Nat},aU k t n≤aU k t (n+m)
 |0=>Nat.le_refl _
 |m+1=>by
  have:=Ey (k:=k) (t:=t) (n:=n) (m:=m)
  rw[←Nat.add_assoc,pB];omega
theorem EH {k:Nat→Rat} {t:Rat} {i:Nat}:∀{l:Nat},(∀j,i≤j→j<i+l→k j=t)→l≤aU k t (i+l)
 |0,_=>Nat.zero_le _
 |l+1,h=>by
  have:=EH (k:=k) (t:=t) (i:=i) (l:=l) fun j h1 h2=>h j h1 (by omega)
  rw[←Nat.add_assoc,pB,if_pos (h (i+l) (by omega) (by omega))];omega
theorem Fa {k:Nat→Rat} {t:Rat} {lo hi:Nat} (hlh:lo≤hi):∀{n:Nat},(∀j,j<n→k j=t→lo≤j∧j<hi)→aU k t n≤min n hi-lo
 |0,_=>by simp[aU]
 |n+1,h=>by
  have:=Fa (k:=k) (t:=t) hlh (n:=n) fun j hj=>h j (by omega)
  rw[pB]
  by_cases hn:k n=t
  ·rw[if_pos hn]
   have:=h n (by omega) hn
   omega
  ·rw[if_neg hn];omega
theorem KS {n a i:Nat} {k:Nat→Rat} {t:Rat} (hs:∀i,i+1<n→k i≤k (i+1)) (hhi:t<k (a+1)) (ha:a+1<n) (hlo:k a≤t) (hi:i≤a) (h:a<i+aU k t n):k i=t:=by
 by_cases he:k i=t
 ·exact he
 ·have h1:=fS hs hi (by omega)
  have hlt:k i<t:=by grind
  have:=Fa (k:=k) (t:=t) (lo:=i+1) (hi:=a+1) (by omega) (n:=n) fun j hj hjt=>by
   constructor
   ·by_cases c:j≤i
    ·have:=fS hs c (by omega)
     grind
    ·omega
   ·by_cases c:a+1≤j
    ·have:=fS hs c hj
     grind
    ·omega
  omega
theorem Kn.k9 {n p a:Nat} {k:Nat→Rat} {t:Rat} (h:Kn n p k) (h0:k 0<t) (h1:t<k (n-1)) (hlo:k a≤t) (hhi:t<k (a+1)) (ha:a+1<n):p≤a∧a+p+1<n:=by
 have hl:=h.len
 constructor
 ·by_cases c:p≤a
  ·exact c
  ·have:=h.first (a+1) (by omega)
   grind
 ·by_cases c:a+p+1<n
  ·exact c
  ·have:=h.last a (by omega) (by omega)
   grind
theorem Kn.cK {n p a:Nat} {k:Nat→Rat} {t:Rat} (h:Kn n p k) (h0:k 0<t) (h1:t<k (n-1)) (hlo:k a≤t) (hhi:t<k (a+1)) (ha:a+1<n) (ht:aU k t n<p):Kn (n+1) p (cK k t (a+1)):=by
 obtain⟨g1,g2⟩:=h.k9 h0 h1 hlo hhi ha
 have hp:=h.p1
 have hl:=h.len
 refine⟨hp,by omega,fun i hi=>?_,fun i hi=>?_,fun i h2 h3=>?_,fun i h2 h3=>?_⟩
 ·by_cases c1:i<a
  ·rw[gP (by omega),gP (by omega)];exact h.sorted i (by omega)
  ·by_cases c2:i=a
   ·subst c2;rw[gP (by omega),nQ];exact hlo
   ·by_cases c3:i=a+1
    ·subst c3;rw[nQ,gW (by omega)];exact Rat.le_of_lt hhi
    ·rw[gW (by omega),gW (by omega)]
     have:=h.sorted (i-1) (by omega)
     rwa [show i-1+1=i+1-1 by omega]at this
 ·rw[gP (by omega),gP (by omega)];exact h.first i hi
 ·rw[gW (by omega),gW (by omega),h.last (i-1) (by omega) (by omega),show n+1-1-1=n-1 by omega]
 ·by_cases c1:i+p<a+1
  ·rw[gP (by omega),gP (by omega)];exact h.mult i h2 (by omega)
  ·by_cases c2:i+p=a+1
   ·rw[c2,nQ,gP (by omega)]
    have m:=h.mono (show i≤a by omega) (by omega)
    by_cases e:k i=t
    ·exfalso
     have hb:∀j,i≤j→j<i+p→k j=t:=fun j hj1 hj2=>by
      have a1:=h.mono hj1 (by omega)
      have a2:=h.mono (show j≤a by omega) (by omega)
      grind
     have b1:=EH hb
     have b2:=Ey (k:=k) (t:=t) (n:=i+p) (m:=n-(i+p))
     rw[show i+p+(n-(i+p))=n by omega]at b2
     omega
    ·grind
   ·by_cases c3:i≤a
    ·rw[gP (by omega),gW (by omega)]
     have m1:=h.mono c3 (by omega)
     have m2:=h.mono (show a+1≤i+p-1 by omega) (by omega)
     grind
    ·by_cases c4:i=a+1
     ·subst c4;rw[nQ,gW (by omega)]
      have m2:=h.mono (show a+1≤a+1+p-1 by omega) (by omega)
      grind
     ·rw[gW (by omega),gW (by omega)]
      have:=h.mult (i-1) (by omega) (by omega)
      rwa [show i-1+p=i+p-1 by omega]at this
theorem Ub {k x:Nat→Rat} {p a j:Nat} {t:Rat} {n:Nat} (hs:∀i,i+1<n→k i≤k (i+1)) (hlo:k a≤t) (hhi:t<k (a+1)) (hn:a+p<n) (hx:∀j,0<x j):0<fU k p x t a j:=by
 unfold fU
 split
 ·exact hx _
 ·split
  ·exact hx _
  ·have m1:=fS hs (show j≤a by omega) (by omega)
   have m2:=fS hs (show a+1≤j+p by omega) (by omega)
   have hw:k j<k (j+p):=by grind
   have f0:=afS (t:=t) hw (by grind)
   have f1:=ai3 (t:=t) hw (by grind)
   generalize fr (k j) (k (j+p)) t=f at*
   have x0:=hx (j-1)
   have x1:=hx j
   by_cases e:f=1
   ·subst e;grind
   ·have:=Rat.mul_pos (a:=1-f) (b:=x (j-1)) (by grind) x0
    have:=Rat.mul_nonneg (a:=f) (b:=x j) f0 (by grind)
    grind
theorem Ft {n:Nat} {k:Nat→Rat} {pc:Nat→Nat→Nat} (h0:∀i,pc 0 i=i) (h1:∀f i,pc (f+1) i=if i+1<n∧k (i+1)≤k i then pc f (i+1)else i):∀{f i l:Nat},k i<k (i+l)→i+l<n→l≤f→i≤pc f i∧pc f i<i+l∧k (pc f i)<k (pc f i+1)
 |0,i,l,hk,hn,hl=>by
  have:l=0:=by omega
  subst this;exact absurd hk (by rw[Nat.add_zero];exact Rat.lt_irrefl)
 |f+1,i,l,hk,hn,hl=>by
  have hl0:l≠0:=fun e=>by subst e;rw[Nat.add_zero]at hk;exact absurd hk Rat.lt_irrefl
  rw[h1]
  by_cases c:i+1<n∧k (i+1)≤k i
  ·rw[if_pos c]
   have:=Ft h0 h1 (f:=f) (i:=i+1) (l:=l-1) (by rw[show i+1+(l-1)=i+l by omega];have:=c.2;grind) (by omega) (by omega)
   obtain⟨a1,a2,a3⟩:=this
   exact⟨by omega,by omega,a3⟩
  ·rw[if_neg c]
   exact⟨Nat.le_refl _,by omega,Rat.not_le.1 fun e=>c ⟨by omega,e⟩⟩
theorem JX {n i:Nat} {k:Nat→Rat} (h:At n k i):bz n k (k i)=i:=rR ⟨h,Rat.le_refl,Rat.le_of_lt h.wide,.inl h.wide⟩
theorem Lv {n a q:Nat} {k:Nat→Rat} {t:Rat} (hs:∀i,i+1<n→k i≤k (i+1)) (hlo:k a≤t) (hhi:t<k (a+1)) (ha:a+1<n) (hq:q+1<n+1) (hw:cK k t (a+1) q<cK k t (a+1) (q+1)):
  At n k (gp a q)∧bz n k (cK k t (a+1) q)=gp a q∧k 0≤cK k t (a+1) q∧cK k t (a+1) q≤k (n-1):=by
 have key:∀i,At n k i→k 0≤k i∧k i≤k (n-1):=fun i h=>⟨fS hs (Nat.zero_le _) (by have:=h.lt;omega),fS hs (by have:=h.lt;omega) (by omega)⟩
 by_cases c1:q≤a
 ·have e:gp a q=q:=if_pos c1
  rw[e,gP (by omega)]at*
  have hA:At n k q:=⟨by omega,hs,by
   by_cases c2:q=a
   ·subst c2;grind
   ·rwa [gP (by omega)]at hw⟩
  exact⟨hA,JX hA,key q hA⟩
 ·have e:gp a q=q-1:=if_neg c1
  rw[e]
  by_cases c2:q=a+1
  ·subst c2
   rw[nQ]
   have hA:At n k a:=⟨ha,hs,by grind⟩
   have:=key a hA
   have m:=fS hs (show a+1≤n-1 by omega) (by omega)
   exact⟨hA,rR ⟨hA,hlo,Rat.le_of_lt hhi,.inl hhi⟩,by grind,by grind⟩
  ·rw[gW (by omega)]at hw ⊢
   rw[gW (by omega)]at hw
   have hA:At n k (q-1):=⟨by omega,hs,by rwa [show q-1+1=q+1-1 by omega]⟩
   exact⟨hA,JX hA,key _ hA⟩
end Go.Am.B

/- ref10.insert. -/
namespace Go.Am.B
open Go Go.Am.N AV aa ak IntKind
theorem XZ:aP P s9 AF (au AF):=aQ Y3 (by kernel_rfl) (by kernel_rfl) (by kernel_rfl)
abbrev Wk (m:Nat) (f:Nat→Pl) (w:Nat):ah:=⟨true,true,12,m,fun j=>bI (f j) w⟩
noncomputable def MZ:aS:=[(Lz,kX T (sG::nL) [] 100 Kg)]
noncomputable def CG:aS:=nG::(x7,zB)::(rX,oX)::(zf,B5 2000 2002)::(yS,J4)::(Na++(MZ++((r9,ic kR kR E7 nI)::o7)))
def vL (f:Rat) (a b:Pl):Pl:=⟨⟨a.n.x+f*(b.n.x-a.n.x),a.n.y+f*(b.n.y-a.n.y),a.n.z+f*(b.n.z-a.n.z)⟩,a.d+f*(b.d-a.d)⟩
def js (c:Cu) (t:Rat) (a s i:Nat):Pl:=
 if i+c.p.toNat≤a then c.f i else if a<i+s then c.f (i-1)else
  ⟨oB (vL ((t-c.k i)/(c.k (i+c.p.toNat)-c.k i)) (b9 (c.f (i-1))) (b9 (c.f i))),(vL ((t-c.k i)/(c.k (i+c.p.toNat)-c.k i)) (b9 (c.f (i-1))) (b9 (c.f i))).d⟩
abbrev za:List Nat:=[2,3,4,5,6,8,9,10]
abbrev Hy (c:Cu) (a s i:Nat):List AV:=[.ptr 0 0 3 0 [],.ptr 1 0 3 0 [],.ptr 2 0 3 0 [],.int .i64 c.p,.int .i64 a,.int .i64 s,.ptr 3 0 3 0 [],.int .i64 i]
abbrev wv (c:Cu) (t:Rat) (N:Nat) (K:Nat→Rat) (f:Nat→Pl) (i:Nat):aC:=[(4,Wk i f sE),(3,⟨false,true,3,1,fun _=>.agg [.int .i64 c.p,bq K N 2002,.own 4 12 0 i]⟩),(2,ta),(1,tP t 2000),(0,⟨false,true,3,1,fun _=>bh c 2000 2000⟩)]
noncomputable abbrev zl:Code:=au AF
theorem ait {c:Cu} {t:Rat}:aJ T CG [] 60 za (before zl [1,1,1,1,1,0,1]) ⟨aN 0 [bh c 2000 2000,.rat t 2000],[],0⟩=
  let c6:AV:=rat t 2000;let c5:Nat:=(aT (bh c 2000 2000)).size;let c4:Prop:=bK (fun i↦rat (c.k i) 2000) c.n sK;let c3:Prop:=c.n<2^40;let c2:AV:=agg [int i64 (0:Int),nil,nil];let c1:Prop:=0<1;some (ag [c1] (ag [c1,c1,c4,(2000:Nat)≤sK,Kn c.n c.p.toNat fun i↦aO (rat (c.k i) 2000),(0:Int)≤c.p,c3] (ag [c1,c1,c4,(2000:Nat)≤sK,c3] (ag [c1,c1,bK (fun i↦rat (c.k i) 2000) c.n 2000,(2000:Nat)≤2000,c3,c1] (leaf normal ([ptr 0 0 c5 0 [],ptr 4096 0 (aT c6).size 0 [],ptr 8192 0 3 0 [],int i64 c.p,int i64 (↑(fK c.n (fun i↦aO (rat (c.k i) 2000)) t):Int),int i64 (↑(aU (fun i↦aO (rat (c.k i) 2000)) t c.n):Int),ptr 110592 0 3 0 [],int i64 (0:Int)],[((110592:Nat),ah.mk false true 3 1 fun j↦if(j==0)=true then aT (agg ((c2.kids.set 0 (aT (int i64 c.p))).set 1 (aT (bq (cF (fun i↦aO (rat (c.k i) 2000)) t (cy (fun i↦aO (rat (c.k i) 2000)) t c.n)) (c.n+1) 2002))))else c2),((8192:Nat),ah.mk false true 3 1 fun x↦c2),((4096:Nat),ah.mk false true (aT c6).size 1 fun x↦c6),((0:Nat),ah.mk false true c5 1 fun x↦agg [int i64 c.p,aj 3 c.n fun i↦rat (c.k i) 2000,aj 12 c.m fun i↦agg [agg [rat (c.f i).n.x 2000,rat (c.f i).n.y 2000,rat (c.f i).n.z 2000],rat (c.f i).d 2000]])])))))):=by kernel_rfl
theorem aeD {c:Cu} {t:Rat} {a s i N:Nat} {K:Nat→Rat} {f:Nat→Pl}:aJ T CG [36,81,97] 60 za [part zl [1,1,1,1,1,0,1,0,0]] ⟨aB za (Hy c a s i),wv c t N K f i,5⟩=
  let c29:AV:=int i64 c.p;let c28:AV:=own 4 12 0 i;let c27:Nat:=2^41;let c25:AV:=ptr 2 0 3 0 [];let c24:AV:=ptr 3 0 3 0 [];let c23:AV:=ptr 1 0 3 0 [];let c22:AV:=ptr 0 0 3 0 [];let c20:Nat:=i+1;let c19:Int:=(↑a:Int);let c11:AV:=rat 0 1;let c9:Int:=(2:Int)^63;let c6:Prop:=0<1;let c5:Nat:=2000+2000;let c4:Int:=(↑i:Int);let c33:Int:=c4+(1:Int);let c30:Prop:=(0:Int)≤c4;let c26:Int:=c19-(↑s:Int);let c21:AV:=agg [agg [c11,c11,c11],c11];let c18:Nat:=c5+1;let c16:Int:=c4-(1:Int);let c14:Prop:=2000<c27;let c13:Pl:=c.f c4.toNat;let c10:List Prop:=[(1:Nat)*12≤2^24,c20*((224:Nat)+1)*2≤2^47,c6];let c8:Rat:=(t-c.k c4.toNat)/(c.k (c4+c.p).toNat-c.k c4.toNat);let c7:AV:=agg [c29,bq K N 2002,c28];let c1:List (Nat×ah):=[((2:Nat),ah.mk false true 3 1 fun x↦agg [int i64 (0:Int),nil,nil]),((1:Nat),ah.mk false true 3 1 fun x↦rat t 2000),((0:Nat),ah.mk false true 3 1 fun x↦agg [c29,aj 3 c.n fun i↦rat (c.k i) 2000,aj 12 c.m fun i↦agg [agg [rat (c.f i).n.x 2000,rat (c.f i).n.y 2000,rat (c.f i).n.z 2000],rat (c.f i).d 2000]])];let c31:Prop:=(0:Int)≤c16∧c16.toNat<c.m;let c17:Prop:=-c9≤c33∧c33<c9;let c12:Prop:=c5+(c18+c18+(c5+c5+1))+1≤sH;let c3:List AV:=[c22,c23,c25,c29,int i64 c19,int i64 (↑s:Int),c24,int i64 c33];let c2:Pl:=c.f c16.toNat;let c32:Rat:=c2.d+c8*(c13.d-c2.d);let c15:Rat:=(↑(1:Int):Rat)/c32;some (ag [c6] (fork (decide (c4≤(↑c.m:Int))) (ag [-c9≤c19-c.p∧c19-c.p<c9] (fork (decide (c4≤c19-c.p)) (ag (c6::c6::(c30∧c4.toNat<c.m)::c10) (ag [c17] (leaf normal (c3,((77829:Nat),ah.mk true true 12 c20 fun i_1↦if i_1<i then bI (f i_1) sE else nth [agg [agg [rat c13.n.x 2000,rat c13.n.y 2000,rat c13.n.z 2000],rat c13.d 2000]] c21 (i_1-i+0))::((3:Nat),ah.mk false true 3 1 fun j↦if(j==0)=true then agg (c7.kids.set 2 (aT (own (nat_lit 77828+1) 12 0 c20)))else c7)::c1)))) (ag [-c9≤c26∧c26<c9] (fork (decide (c4>c26)) (ag (c6::c6::(-c9≤c16∧c16<c9)::c31::c10) (ag [c17] (leaf normal (c3,((106501:Nat),ah.mk true true 12 c20 fun i_1↦if i_1<i then bI (f i_1) sE else nth [agg [agg [rat c2.n.x 2000,rat c2.n.y 2000,rat c2.n.z 2000],rat c2.d 2000]] c21 (i_1-i+0))::((3:Nat),ah.mk false true 3 1 fun j↦if(j==0)=true then agg (c7.kids.set 2 (aT (own (nat_lit 106500+1) 12 0 c20)))else c7)::c1)))) (ag [c6,c6,c30∧c4.toNat<c.n,c14,c14,c6,-c9≤c4+c.p∧c4+c.p<c9,(0:Int)≤c4+c.p∧(c4+c.p).toNat<c.n,c6,c30∧c4.toNat<c.n,c14,c14,c18<c27,c18<c27,c6] (ag (c6::c6::c6::(-c9≤c16∧c16<c9)::c31::c6::c6::c6::(c30∧c4.toNat<c.m)::c6::c6::c6::c12::c12::c12::((2000:Nat)+(c18+c18+c18)+1≤sH)::c10) (ag [c17] (leaf normal (c3,((241669:Nat),ah.mk true true 12 c20 fun i_1↦if i_1<i then bI (f i_1) sE else nth [agg [agg [rat (c15*(c2.d*c2.n.x+c8*(c13.d*c13.n.x-c2.d*c2.n.x))) sE,rat (c15*(c2.d*c2.n.y+c8*(c13.d*c13.n.y-c2.d*c2.n.y))) sE,rat (c15*(c2.d*c2.n.z+c8*(c13.d*c13.n.z-c2.d*c2.n.z))) sE],rat c32 sH]] c21 (i_1-i+0))::((3:Nat),ah.mk false true 3 1 fun j↦if(j==0)=true then agg (c7.kids.set 2 (aT (own (nat_lit 241668+1) 12 0 c20)))else c7)::c1))))))))) (leaf (exit 0) ([c22,c23,c25,c29,int i64 c19,int i64 (↑s:Int),c24,int i64 c4],((4:Nat),ah.mk true true 12 i fun j↦agg [agg [rat (f j).n.x 4294967298,rat (f j).n.y 4294967298,rat (f j).n.z 4294967298],rat (f j).d 4294967298])::((3:Nat),ah.mk false true 3 1 fun x↦agg [c29,aj 3 N fun i↦rat (K i) 2002,c28])::c1)))):=by kernel_rfl
theorem Uj {c:Cu} {t:Rat} {a s i N:Nat} {K:Nat→Rat} {f:Nat→Pl}:bY T CG [] 60 AF [part zl [1,1,1,1,1,1]] ⟨aB za (Hy c a s i),wv c t N K f i,5⟩=
  let c1:Prop:=0<1;some (ag [c1,c1] (ag [c1] (leaf ret [agg [int i64 c.p,aj 3 N fun i↦rat (K i) 2002,aj 12 i fun i↦agg [agg [rat (f (i+0)).n.x 4294967298,rat (f (i+0)).n.y 4294967298,rat (f (i+0)).n.z 4294967298],rat (f (i+0)).d 4294967298]]]))):=by kernel_rfl
theorem O5 (c:Cu) (s r:Nat):(aT (bh c s r)).size=3:=by kernel_rfl
theorem agz:aW P MZ:=aH (mE hT (mT oG) hm (aQ afJ (by kernel_rfl) (by kernel_rfl) (by kernel_rfl)) _ _) bp
theorem aem:aW P CG:=cL (aH Wm (aH Gu (aH (ady (by decide) (by decide)) (aH ahs (sO aiq (sO agz (aH (iF fun _ _ K hn=>Hx hn.1 hn.2 K) qJ)))))))
def EK (c:Cu) (t:Rat) (a:Nat):Cu:=⟨c.p,c.n+1,cF c.k t (cy c.k t c.n),c.m+1,js c t a (aU c.k t c.n)⟩
theorem C3 {rl:List (Nat×Nat)} {c:Cu} {N:Nat} {K:Nat→Rat} {a i i':Nat} (h:aV rl 4=some a) (e:i=i'):fz rl (.agg [.int .i64 c.p,bq K N 2002,.own a 12 0 i]) (.agg [.int .i64 c.p,bq K N 2002,.own 4 12 0 i']):=
 kP ⟨⟨rfl,aK rfl⟩,⟨rfl,aK rfl⟩,⟨rfl,cV h rfl e⟩,trivial⟩
set_option maxHeartbeats 1000000 in
theorem af8 {c:Cu} {t:Rat} {a:Nat} (hc:dU c) (h0:c.k 0<t) (h1:t<c.k (c.n-1)) (hlo:c.k a≤t) (hhi:t<c.k (a+1)) (ha:a+1<c.n) (K:Nat):aA P s9 K [bh c 2000 2000,.rat t 2000] [] (aG (bh (EK c t a) 2002 sE) []):=by
 obtain⟨k1,k2,k3,k4,k5⟩:=id hc
 have hl:=k1.len
 obtain⟨i1,i2⟩:=k1.k9 h0 h1 hlo hhi ha
 have hI:fK c.n c.k t=a:=by
  unfold fK;rw[if_neg (by unfold dM;rintro(h|h)<;>grind)];exact rR ⟨⟨ha,k1.sorted,by grind⟩,hlo,Rat.le_of_lt hhi,.inl hhi⟩
 have hs2:=Dx (k:=c.k) (t:=t) (n:=c.n)
 obtain⟨s,hs⟩:∃s,s=aU c.k t c.n:=⟨_,rfl⟩
 unfold EK
 rw[←hs]at hs2 ⊢
 refine fD (r:=aG (bh ⟨c.p,c.n+1,cF c.k t (cy c.k t c.n),c.m+1,js c t a s⟩ 2002 sE) []) hT aem hm XZ rfl (of_decide_eq_true (by kernel_rfl)) rfl [1,1,1,1,1,0,1] (i:=0) (y:=part zl [1,1,1,1,1,0,1,0,0]) (z:=part zl [1,1,1,1,1,1]) (by kernel_rfl) (by kernel_rfl) (by kernel_rfl) (f1:=[]) (f2:=[36,81,97]) (f3:=[]) 60 za 5
  (fun i:Nat=>Hy c a s i) (fun i=>wv c t (c.n+1) (cF c.k t (cy c.k t c.n)) (js c t a s) i) (fun i=>i≤c.m+1) (fun i=>i=c.m+1) (fun i=>c.m+1-i) (fun _=>⟨⟨_,ait,?_⟩,fun i hi=>⟨_,aeD,?_⟩,fun i hi=>⟨_,Uj,?_⟩⟩) K []
 ·have e1:fK c.n (fun i=>aO (rat (c.k i) 2000)) t=a:=hI
  have e2:aU (fun i=>aO (rat (c.k i) 2000)) t c.n=s:=hs.symm
  simp only[aa.all,ax,e1,e2]
  rw[O5 c 2000 2000]
  exact⟨by omega,⟨by omega,by omega,ct (by decide),by decide,k1,by omega,by omega⟩,⟨by omega,by omega,ct (by decide),by decide,by omega⟩,⟨by omega,by omega,ct (Nat.le_refl _),by omega,by omega,by omega⟩,0,Nat.zero_le _,[(0,0),(1,4096),(2,8192),(3,110592)],rfl,rfl,rfl,nT rfl (by omega) (by omega)
   (aF rfl rfl (kP ⟨⟨rfl,aK rfl⟩,⟨rfl,aK rfl⟩,⟨rfl,oW (by omega)⟩,trivial⟩) (aF rfl rfl (aE rfl rfl) (aF rfl rfl (aE rfl rfl) (aF rfl rfl (aE rfl rfl) trivial))))⟩
 ·have e3:((i:Int)+c.p).toNat=i+c.p.toNat:=by omega
  have e4:((i:Int)-1).toNat=i-1:=by omega
  simp only[aa.all,ax,decide_eq_true_eq,decide_eq_false_iff_not,Int.toNat_natCast,e3,e4]
  have tl:∀{i' j:Nat},i'=i→jm 5 [(0,0),(1,1),(2,2),(3,3),(4,4)] (wv c t (c.n+1) (cF c.k t (cy c.k t c.n)) (js c t a s) i) (wv c t (c.n+1) (cF c.k t (cy c.k t c.n)) (js c t a s) i):=fun _=>bB rfl rfl rfl (fun _ _=>aE rfl rfl) (aF rfl rfl (C3 rfl rfl) (aF rfl rfl (aE rfl rfl) (aF rfl rfl (aE rfl rfl) (aF rfl rfl (aE rfl rfl) trivial))))
  refine⟨by omega,fun g1=>⟨by omega,fun g2=>⟨by omega,by omega,i+1,by omega,by dsimp only;omega,[(0,0),(1,1),(2,2),(3,3),(4,77829)],rfl,rfl,rfl,bB rfl rfl rfl (fun k hk=>BH (y:=js c t a s) (fun _ _=>rfl) (s':=sE) ?_ rfl (Nat.le_refl _) (Nat.le_refl _) hk) (aF rfl rfl (C3 rfl rfl) (aF rfl rfl (aE rfl rfl) (aF rfl rfl (aE rfl rfl) (aF rfl rfl (aE rfl rfl) trivial))))⟩,
   fun g2=>⟨by omega,fun g3=>⟨by omega,by omega,i+1,by omega,by dsimp only;omega,[(0,0),(1,1),(2,2),(3,3),(4,106501)],rfl,rfl,rfl,bB rfl rfl rfl (fun k hk=>BH (y:=js c t a s) (fun _ _=>rfl) (s':=sE) ?_ rfl (Nat.le_refl _) (Nat.le_refl _) hk) (aF rfl rfl (C3 rfl rfl) (aF rfl rfl (aE rfl rfl) (aF rfl rfl (aE rfl rfl) (aF rfl rfl (aE rfl rfl) trivial))))⟩,
    fun g3=>⟨?_,?_,by omega,i+1,by omega,by dsimp only;omega,[(0,0),(1,1),(2,2),(3,3),(4,241669)],rfl,rfl,rfl,bB rfl rfl rfl (fun k hk=>BH (y:=js c t a s) (fun _ _=>rfl) (s':=sE) ?_ rfl (Nat.le_refl _) (Nat.le_refl _) hk) (aF rfl rfl (C3 rfl rfl) (aF rfl rfl (aE rfl rfl) (aF rfl rfl (aE rfl rfl) (aF rfl rfl (aE rfl rfl) trivial))))⟩⟩⟩,
   fun g1=>⟨rfl,i,by omega,_,rfl,rfl,rfl,tl (i':=i) (j:=i) rfl⟩⟩
  ·rw[show js c t a s i=c.f i from if_pos (by omega)]
   exact cB ⟨cB ⟨bG rfl (by decide),bG rfl (by decide),bG rfl (by decide),trivial⟩,bG rfl (by decide),trivial⟩
  ·rw[show js c t a s i=c.f (i-1)from(if_neg (by omega)).trans (if_pos (by omega))]
   exact cB ⟨cB ⟨bG rfl (by decide),bG rfl (by decide),bG rfl (by decide),trivial⟩,bG rfl (by decide),trivial⟩
  ·(repeat' with_reducible refine And.intro ?_ ?_)<;>omega
  ·(repeat' with_reducible refine And.intro ?_ ?_)<;>first|omega|decide
  ·rw[show js c t a s i=⟨oB (vL ((t-c.k i)/(c.k (i+c.p.toNat)-c.k i)) (b9 (c.f (i-1))) (b9 (c.f i))),(vL ((t-c.k i)/(c.k (i+c.p.toNat)-c.k i)) (b9 (c.f (i-1))) (b9 (c.f i))).d⟩from(if_neg (by omega)).trans (if_neg (by omega))]
   exact cB ⟨cB ⟨bG rfl (Nat.le_refl _),bG rfl (Nat.le_refl _),bG rfl (Nat.le_refl _),trivial⟩,bG rfl (by decide),trivial⟩
 ·subst hi
  simp only[aa.all,ax]
  exact⟨by omega,by omega,.refl _⟩
end Go.Am.B

/- What insertions compute: program and reference say the same. -/
namespace Go.Am.B
open Go Go.Am.N AV aa ak IntKind
theorem OD {k:Nat→Rat} {t:Rat}:∀{i:Nat},(∀j,j<i→k j≤t)→cy k t i=i
 |0,_=>rfl
 |i+1,h=>HJ (OD fun j hj=>h j (by omega)) (h i (by omega))
theorem CR {n a:Nat} {k:Nat→Rat} {t:Rat} (hs:∀i,i+1<n→k i≤k (i+1)) (hlo:k a≤t) (hhi:t<k (a+1)) (ha:a+1<n):cy k t n=a+1:=
 HT (OD fun j hj=>Rat.le_trans (fS hs (show j≤a by omega) (by omega)) hlo) hhi (by omega)
theorem UR {k:Nat→Rat} {t:Rat} {q:Nat}:cF k t q=cK k t q:=rfl
def j0 (c:Cu) (t:Rat) (a j:Nat):Pl:=
 ⟨⟨fU c.k c.p.toNat (fun q=>(b9 (c.f q)).n.x) t a j,fU c.k c.p.toNat (fun q=>(b9 (c.f q)).n.y) t a j,fU c.k c.p.toNat (fun q=>(b9 (c.f q)).n.z) t a j⟩,fU c.k c.p.toNat (fun q=>(b9 (c.f q)).d) t a j⟩
theorem Kn.K5 {n p j:Nat} {k:Nat→Rat} (h:Kn n p k) (hj:j+p+1<n):k j<k (j+(p+1)):=by
 have hp:=h.p1
 have hl:=h.len
 by_cases c:j=0
 ·subst c
  have m:=h.mult 1 (by omega) (by omega)
  rw[h.first 1 (by omega)]at m
  rwa [show 0+(p+1)=1+p by omega]
 ·have m:=h.mult j (by omega) hj
  have:=h.mono (show j+p≤j+(p+1) by omega) (by omega)
  grind
theorem Kn.wide {n p P:Nat} {k:Nat→Rat} (h:Kn n p k) (hA:At n k P):p≤P∧P+p+1<n:=by
 have hw:=hA.wide
 have hlt:=hA.lt
 have hl:=h.len
 constructor
 ·by_cases c:p≤P
  ·exact c
  ·rw[h.first P (by omega),h.first (P+1) (by omega)]at hw
   exact absurd hw Rat.lt_irrefl
 ·by_cases c:P+p+1<n
  ·exact c
  ·rw[h.last P (by omega) (by omega),h.last (P+1) (by omega) (by omega)]at hw
   exact absurd hw Rat.lt_irrefl
theorem YH {c:Cu} {t:Rat} {a q j e:Nat} (hc:dU c) (h0:c.k 0<t) (h1:t<c.k (c.n-1)) (hlo:c.k a≤t) (hhi:t<c.k (a+1)) (ha:a+1<c.n) (hA:At c.n c.k (gp a q)) (g1:j≤q) (g2:q≤j+c.p.toNat):
  fY ⟨c.p,c.n,c.k,c.m,fun i=>b9 (c.f i)⟩ (gp a q:Nat) c.p.toNat (fun i=>cK c.k t (a+1) (i+(j+1))) e=fU c.k c.p.toNat (fun i=>gV (b9 (c.f i)) e) t a j:=by
 obtain⟨k1,k2,k3,k4,k5⟩:=hc
 obtain⟨i1,i2⟩:=k1.k9 h0 h1 hlo hhi ha
 obtain⟨w1,w2⟩:=k1.wide hA
 have hw:=hA.wide
 have hE:gH c.n c.k c.p.toNat c.m c.p.toNat (gp a q:Nat)=0:=E3 (by omega) rfl (by
  rw[Int.toNat_natCast]
  rintro(h|h|h)
  ·omega
  ·omega
  ·exact absurd h (Rat.not_le.2 hw))
 unfold fY kV
 dsimp only
 rw[if_pos hE,Int.toNat_natCast,QB]
 have e1:bQ (fun i=>cK c.k t (a+1) (i+(j+1))) 0 c.p.toNat=bQ (cK c.k t (a+1)) (j+1) c.p.toNat:=by
  have:=HV (k:=cK c.k t (a+1)) (c:=j+1) (l:=c.p.toNat) (a:=0)
  rw[Nat.add_zero]at this
  rw[←this]
  exact AO fun i _ _=>by rw[Nat.add_comm i (j+1)]
 rw[e1]
 exact QE (n:=c.n) (x:=fun i=>gV (b9 (c.f i)) e) k1.sorted (by omega) hlo hhi i1 hA w1 (by omega) g1 g2
theorem agp {c:Cu} {t:Rat} {a j:Nat} (hc:dU c) (h0:c.k 0<t) (h1:t<c.k (c.n-1)) (hlo:c.k a≤t) (hhi:t<c.k (a+1)) (ha:a+1<c.n) (ht:aU c.k t c.n<c.p.toNat) (hj:j<c.m+1):
  (qv ⟨c.p,c.n,c.k,c.m,fun i=>b9 (c.f i)⟩ t).f j=j0 c t a j:=by
 obtain⟨k1,k2,k3,k4,k5⟩:=id hc
 have hK:=k1.cK h0 h1 hlo hhi ha ht
 have hl:=k1.len
 obtain⟨q,hq⟩:∃q,q=fR (cK c.k t (a+1)) (c.n+1) j:=⟨_,rfl⟩
 obtain⟨g1,g2,g3⟩:j≤q∧q<j+(c.p.toNat+1)∧cK c.k t (a+1) q<cK c.k t (a+1) (q+1):=by
  rw[hq]
  exact Ft (n:=c.n+1) (k:=cK c.k t (a+1)) (pc:=oN (cK c.k t (a+1)) (c.n+1)) (fun _=>rfl) (fun _ _=>rfl) (hK.K5 (by omega)) (by omega) (by omega)
 obtain⟨hA,hI,o1,o2⟩:=Lv k1.sorted hlo hhi ha (by omega) g3
 have hI2:fK c.n c.k (cK c.k t (a+1) q)=gp a q:=by
  unfold fK;rw[if_neg (by unfold dM;rintro(h|h)<;>grind)];exact hI
 show nh _ (fK c.n c.k (cF c.k t (cy c.k t c.n) (fR (cF c.k t (cy c.k t c.n)) (c.n+1) j))) c.p.toNat (fun q=>cF c.k t (cy c.k t c.n) (q+(j+1)))=_
 rw[CR k1.sorted hlo hhi ha,UR,←hq,hI2]
 have key:∀e,fY ⟨c.p,c.n,c.k,c.m,fun i=>b9 (c.f i)⟩ (gp a q:Nat) c.p.toNat (fun i=>cK c.k t (a+1) (i+(j+1))) e=fU c.k c.p.toNat (fun i=>gV (b9 (c.f i)) e) t a j:=fun e=>YH hc h0 h1 hlo hhi ha hA g1 (by omega)
 unfold nh
 rw[key 0,key 1,key 2,key 3]
 rfl
theorem tN {p:Pl} (h:p.d≠0):dZ (b9 p)=p:=by
 obtain⟨⟨x,y,z⟩,d⟩:=p
 have key:∀x:Rat,d*x/d=x:=fun x=>by rw[Rat.div_def,Rat.mul_comm d x,Rat.mul_assoc,Rat.mul_inv_cancel _ h,Rat.mul_one]
 unfold dZ b9
 dsimp only
 rw[key,key,key]
theorem Xa {c:Cu} {t:Rat} {a i:Nat} (hc:dU c) (hlo:c.k a≤t) (hhi:t<c.k (a+1)) (ha:a+1<c.n) (hw:∀i,(c.f i).d≠0):js c t a (aU c.k t c.n) i=dZ (j0 c t a i):=by
 obtain⟨k1,k2,k3,k4,k5⟩:=id hc
 unfold js j0 fU
 by_cases c1:i+c.p.toNat≤a
 ·simp only[if_pos c1]
  exact(tN (hw i)).symm
 ·simp only[if_neg c1]
  by_cases c2:a<i
  ·simp only[if_pos (show a<i+aU c.k t c.n by omega),if_pos c2]
   exact(tN (hw (i-1))).symm
  ·simp only[if_neg c2]
   by_cases c3:a<i+aU c.k t c.n
   ·simp only[if_pos c3]
    have e:=KS k1.sorted hhi ha hlo (i:=i) (by omega) c3
    have z:∀x y:Rat,x+fr (c.k i) (c.k (i+c.p.toNat)) t*(y-x)=x:=fun x y=>by rw[e,LW];grind
    simp only[z]
    exact(tN (hw (i-1))).symm
   ·simp only[if_neg c3]
    show(⟨oB (vL (fr (c.k i) (c.k (i+c.p.toNat)) t) (b9 (c.f (i-1))) (b9 (c.f i))),_⟩:Pl)=_
    rw[←OQ];rfl
def kM (c:Cu) (t:Rat) (a:Nat):Cu:=⟨c.p,c.n+1,cK c.k t (a+1),c.m+1,fun j=>dZ (j0 c t a j)⟩
end Go.Am.B

/- ref10.inner, ref10.Insert; curve.Insert says the same. -/
namespace Go.Am.B
open Go Go.Am.N AV aa ak IntKind
theorem T4:aP P vc xO (au xO):=aQ agF (by kernel_rfl) (by kernel_rfl) (by kernel_rfl)
theorem aeC:aP P uQ wg (au wg):=aQ aev (by kernel_rfl) (by kernel_rfl) (by kernel_rfl)
def dJ (c:Cu) (t:Rat):Cu:=if cw c t=0 then kM c t (bz c.n c.k t)else gM
def GC:Spec:=cD (kC (kL 2000) (kC (fq 2000) kN)) (fun a=>.bool (decide (a.1.2 0<a.2.1)&&decide (a.2.1<a.1.2 (a.1.1-1)))) fun a=>[1≤a.1.1,a.1.1<2^40]
def Gh:Spec:=cD (kC (ij 2000 2000) (kC (fq 2000) kN)) (fun a=>bh (kM a.1 a.2.1 (bz a.1.n a.1.k a.2.1)) 2002 sE) fun a=>[dU a.1,a.1.k 0<a.2.1,a.2.1<a.1.k (a.1.n-1),∀i,(a.1.f i).d≠0]
noncomputable def Ny:aS:=nG::(vc,GC)::(rX,oX)::(s9,Gh)::[]
def Ji:Spec:=cD (kC (ij 2000 2000) (kC (fq 2000) kN)) (fun a=>.tuple [bh (dJ a.1 a.2.1) 2002 sE,.int .i64 (cw a.1 a.2.1)]) fun a=>[dU a.1,∀i,(a.1.f i).d≠0]
def Mz:Spec:=cD (kC (ij 2000 2000) (kC (fq 2000) kN)) (fun a=>.tuple [bh (dJ a.1 a.2.1) (sK+10) (sB+sB),.int .i64 (cw a.1 a.2.1)]) fun a=>[dU a.1]
theorem aet {n:Nat} {k:Nat→Rat} {t:Rat}:bC T (nG::o7) [11] 60 xO (au xO) ⟨aN 0 [bq k n 2000,.rat t 2000],[],0⟩=
  let c6:Prop:=0<1;let c4:Prop:=(0:Int)≤(0:Int)∧Int.toNat (0:Int)<n;let c3:Int:=(↑n:Int)-(1:Int);let c2:Int:=dc (k (Int.toNat (0:Int))) t;let c1:Prop:=2000<2^41;let c5:Bool:=decide (c2<(0:Int));some (fork c5 (ag [c4,c6,c1,c1,c5=true,c6,-(2:Int)^63≤c3∧c3<(2:Int)^63,(0:Int)≤c3∧c3.toNat<n,c1,c1] (leaf ret [AV.bool (bif true then decide (dc t (k c3.toNat)<(0:Int))else false)])) (ag [c4,c6,c1,c1,c5=false] (leaf ret [AV.bool false]))):=by kernel_rfl
theorem Q5 {c:Cu} {t:Rat}:bC T Ny [6,13,22] 60 wg (au wg) ⟨aN 0 [bh c 2000 2000,.rat t 2000],[],0⟩=
  let c10:Prop:=2000≤2000;let c9:Prop:=c.n<2^40;let c8:Nat:=c.p.toNat;let c7:Prop:=bK (fun i↦rat (c.k i) 2000) c.n 2000;let c6:Int:=(↑(aU (fun i↦aO (rat (c.k i) 2000)) t c.n):Int);let c5:AV:=agg [int i64 (0:Int),nil,nil];let c4:Rat:=aO (rat (c.k 0) 2000);let c3:Rat:=aO (rat (c.k (c.n-1)) 2000);let c2:Prop:=0<1;let c1:Nat:=bz c.n (fun i↦aO (rat (c.k i) 2000)) t;some (ag [c2,c2,c7,c10,(1:Nat)≤c.n,c9] (fork (!(decide (c4<t)&&decide (t<c3))) (ag [c2] (ag [c2] (leaf ret [c5,int i64 (7:Int)]))) (ag [c2,c2,bK (fun i↦rat (c.k i) 2000) c.n sK,(2000:Nat)≤sK,c9,c2] (fork (decide (c6≥c.p)) (ag [c2] (ag [c2] (leaf ret [c5,int i64 (5:Int)]))) (ag [c2] (fork (decide ((↑c.m:Int)≥(40:Int))) (ag [c2] (ag [c2] (leaf ret [c5,int i64 (2:Int)]))) (ag [c2,c2,c7,fj (fun i↦bI (c.f i) 2000) c.m 2000,c10,dU (Cu.mk c.p c.n (fun i↦aO (rat (c.k i) 2000)) c.m fun i↦fI (bI (c.f i) 2000)),c4<t,t<c3,∀(i:Nat),aO (rat (c.f i).d 2000)≠0,c2] (ag [c2] (leaf ret [agg [int i64 c.p,aj 3 (c.n+1) fun i↦rat (cK (fun i↦aO (rat (c.k i) 2000)) t (c1+1) i) 2002,aj 12 (c.m+1) fun i↦agg [agg [rat (fU (fun i↦aO (rat (c.k i) 2000)) c8 (fun q↦aO (rat (c.f q).d 2000)*aO (rat (c.f q).n.x 2000)) t c1 i/fU (fun i↦aO (rat (c.k i) 2000)) c8 (fun q↦aO (rat (c.f q).d 2000)) t c1 i) 4294967298,rat (fU (fun i↦aO (rat (c.k i) 2000)) c8 (fun q↦aO (rat (c.f q).d 2000)*aO (rat (c.f q).n.y 2000)) t c1 i/fU (fun i↦aO (rat (c.k i) 2000)) c8 (fun q↦aO (rat (c.f q).d 2000)) t c1 i) 4294967298,rat (fU (fun i↦aO (rat (c.k i) 2000)) c8 (fun q↦aO (rat (c.f q).d 2000)*aO (rat (c.f q).n.z 2000)) t c1 i/fU (fun i↦aO (rat (c.k i) 2000)) c8 (fun q↦aO (rat (c.f q).d 2000)) t c1 i) 4294967298],rat (fU (fun i↦aO (rat (c.k i) 2000)) c8 (fun q↦aO (rat (c.f q).d 2000)) t c1 i) 4294967298]],int i64 (0:Int)]))))))))):=by kernel_rfl
theorem lK {n p:Nat} {k:Nat→Rat} {t:Rat} (h:Kn n p k) (h0:k 0<t) (h1:t<k (n-1)):k (bz n k t)≤t∧t<k (bz n k t+1)∧bz n k t+1<n:=by
 obtain⟨g1,g2,g3⟩:=h.Is (Rat.le_of_lt h0) (Rat.le_of_lt h1)
 refine⟨g1.lo,?_,by omega⟩
 rcases g1.Md with e|e
 ·exact e
 ·rw[e];exact h1
theorem LB:∀K args pre r,GC K args pre=some r→aA P vc K args pre r:=cj fun⟨⟨n,k⟩,t,_⟩ K hn=>by
 obtain⟨h1,h2⟩:=hn
 have h1:1≤n:=h1
 have h2:n<2^40:=h2
 refine bJ (r:=aG (.bool (decide (k 0<t)&&decide (t<k (n-1)))) []) hT (cL qJ) hm T4 rfl (of_decide_eq_true (by kernel_rfl)) rfl 60 aet (fun _=>?_) K []
 have e1:((n:Int)-1).toNat=n-1:=by omega
 simp only[aa.all,ax,e1,Int.toNat_zero,cond_true,cond_false,decide_eq_true_eq,decide_eq_false_iff_not,LC]
 refine⟨fun h=>?_,fun h=>?_⟩
 ·(repeat' with_reducible refine And.intro ?_ ?_)
  all_goals first|omega|exact h|decide|skip
  exact eP (by rw[decide_eq_true h,Bool.true_and])
 ·(repeat' with_reducible refine And.intro ?_ ?_)
  all_goals first|omega|exact h|decide|skip
  exact eP (by rw[decide_eq_false h,Bool.false_and])
theorem MV:∀K args pre r,Gh K args pre=some r→aA P s9 K args pre r:=cj fun⟨c,t,_⟩ K hn=>by
 obtain⟨hc,h0,h1,hw⟩:=hn
 have hc:dU c:=hc
 have h0:c.k 0<t:=h0
 have h1:t<c.k (c.n-1):=h1
 have hw:∀i,(c.f i).d≠0:=hw
 obtain⟨g1,g2,g3⟩:=lK hc.1 h0 h1
 refine Cj (u:=bh (EK c t (bz c.n c.k t)) 2002 sE) (l:=[]) (af8 hc h0 h1 g1 g2 g3 K) (fun h=>trivial) rfl rfl ?_
 refine cB ⟨.refl _,lH rfl fun i _=>?_,lH rfl fun i _=>?_,trivial⟩
 ·show AV.rat (cF c.k t (cy c.k t c.n) i) 2002=_
  rw[CR hc.1.sorted g1 g2 g3];rfl
 ·show bI (js c t (bz c.n c.k t) (aU c.k t c.n) i) sE=_
  rw[Xa hc g1 g2 g3 hw];rfl
theorem acR:aW P Ny:=cL (aH LB (aH Gu (aH MV bp)))
theorem Ev {c:Cu} {t:Rat} (h:cw c t=0):c.k 0<t∧t<c.k (c.n-1)∧aU c.k t c.n<c.p.toNat∧c.m<40:=by
 unfold cw at h
 split at h
 ·omega
 ·rename_i g1
  split at h
  ·omega
  ·split at h
   ·omega
   ·have g1:=Classical.not_not.1 g1
    exact⟨g1.1,g1.2,by omega,by omega⟩
theorem Nb:∀K args pre r,Ji K args pre=some r→aA P uQ K args pre r:=cj fun⟨c,t,_⟩ K hn=>by
 obtain⟨hc,hw⟩:=hn
 have hc:dU c:=hc
 have hw:∀i,(c.f i).d≠0:=hw
 obtain⟨k1,k2,k3,k4,k5⟩:=id hc
 have hl:=k1.len
 refine bJ (r:=aG (.tuple [bh (dJ c t) 2002 sE,.int .i64 (cw c t)]) []) hT acR hm aeC rfl (of_decide_eq_true (by kernel_rfl)) rfl 60 Q5 (fun _=>?_) K []
 have no:∀{e:Int},cw c t=e→e≠0→dI [.agg [.int .i64 0,.nil,.nil],.int .i64 e] (.tuple [bh (dJ c t) 2002 sE,.int .i64 (cw c t)]):=fun {e} he h0=>by
  refine⟨?_,bt he.symm,trivial⟩
  rw[show dJ c t=gM from if_neg (by rw[he];exact h0)]
  exact mQ
 simp only[aa.all,ax,decide_eq_true_eq,decide_eq_false_iff_not,Bool.not_eq_true',Bool.not_eq_false',Bool.and_eq_true,Bool.and_eq_false_iff]
 refine⟨⟨by omega,by omega,ct (Nat.le_refl _),by omega,by omega,by omega⟩,fun ho=>⟨by omega,by omega,no ?_ (by decide)⟩,fun hi=>⟨⟨by omega,by omega,ct (by decide),by decide,by omega,by omega⟩,fun h6=>⟨by omega,by omega,no ?_ (by decide)⟩,fun h6=>⟨by omega,fun h7=>⟨by omega,by omega,no ?_ (by decide)⟩,fun h7=>⟨⟨by omega,by omega,ct (Nat.le_refl _),gU (Nat.le_refl _),by omega,hc,hi.1,hi.2,hw,by omega⟩,by omega,?_⟩⟩⟩⟩
 ·unfold cw;rw[if_pos fun h=>ho.elim (fun g=>g h.1) fun g=>g h.2]
 ·unfold cw;rw[if_neg (fun g=>g hi),if_pos (show c.p≤(aU c.k t c.n:Int)from h6)]
 ·unfold cw;rw[if_neg (fun g=>g hi),if_neg (show¬c.p≤(aU c.k t c.n:Int)from h6),if_pos (by omega)]
 ·have he:cw c t=0:=by unfold cw;rw[if_neg (fun g=>g hi),if_neg (show¬c.p≤(aU c.k t c.n:Int)from h6),if_neg (by omega)]
  refine⟨?_,bt he.symm,trivial⟩
  rw[show dJ c t=kM c t (bz c.n c.k t)from if_pos he]
  exact .refl _
theorem Ok:∀K args pre r,Mz K args pre=some r→aA P oT K args pre r:=cj fun⟨c,t,_⟩ K hn=>by
 have hc:dU c:=hn
 obtain⟨h1,h2,h3,h4,h5⟩:=id hc
 have hl:=h1.len
 refine bJ (r:=aG (.tuple [bh (dJ c t) (sK+10) (sB+sB),.int .i64 (cw c t)]) []) hT Pd hm LM rfl (of_decide_eq_true (by kernel_rfl)) rfl 60 Pj (fun _=>?_) K []
 have no:∀{e:Int},cw c t=e→e≠0→dI [.agg [.int .i64 0,.nil,.nil],.int .i64 e] (.tuple [bh (dJ c t) (sK+10) (sB+sB),.int .i64 (cw c t)]):=fun {e} he h0=>by
  refine⟨?_,bt he.symm,trivial⟩
  rw[show dJ c t=gM from if_neg (by rw[he];exact h0)]
  exact mQ
 simp only[aa.all,ax,decide_eq_true_eq,decide_eq_false_iff_not,Bool.not_eq_true',Bool.not_eq_false',Bool.and_eq_true,Bool.and_eq_false_iff]
 refine⟨⟨by omega,by omega,ct (Nat.le_refl _),gU (Nat.le_refl _),Nat.le_refl _,hc⟩,fun ho=>⟨by omega,by omega,no ?_ (by decide)⟩,fun hi=>⟨?_,fun h6=>⟨by omega,by omega,no ?_ (by decide)⟩,fun h6=>⟨by omega,fun h7=>⟨by omega,by omega,no ?_ (by decide)⟩,fun h7=>⟨?_,by omega,?_⟩⟩⟩⟩
 ·unfold cw;rw[if_pos fun h=>ho.elim (fun g=>g h.1) fun g=>g h.2]
 ·exact⟨by omega,by omega,ct (by decide),by decide,by omega,by omega⟩
 ·unfold cw;rw[if_neg (fun g=>g hi),if_pos h6]
 ·unfold cw;rw[if_neg (fun g=>g hi),if_neg h6,if_pos (by omega)]
 ·(repeat' with_reducible refine And.intro ?_ ?_)
  all_goals first|omega|exact ct (by decide)|exact gU (Nat.le_refl _)|exact m9 (Nat.le_refl _)|exact h1|exact Nat.le_refl _|skip
 ·have he:cw c t=0:=by unfold cw;rw[if_neg (fun g=>g hi),if_neg h6,if_neg (by omega)]
  obtain⟨e1,e2,e3,e4⟩:=Ev he
  obtain⟨a1,a2,a3⟩:=lK h1 e1 e2
  refine⟨?_,bt he.symm,trivial⟩
  rw[show dJ c t=kM c t (bz c.n c.k t)from if_pos he]
  refine cB ⟨.refl _,lH rfl fun i _=>?_,lH (by show c.n+1-c.p.toNat-1=c.m+1;omega) fun i hi=>?_,trivial⟩
  ·show AV.rat (cF c.k t (cy c.k t c.n) i) _=_
   rw[CR h1.sorted a1 a2 a3];rfl
  ·show bI (dZ ((qv ⟨c.p,c.n,c.k,c.m,fun i=>b9 (c.f i)⟩ t).f i)) _=_
   have hi:i<c.n+1-c.p.toNat-1:=hi
   rw[agp hc e1 e2 a1 a2 a3 e3 (by omega)];rfl
end Go.Am.B

/- How long the numbers of an inserted knot can be. -/
namespace Go.Am.B
open Go
theorem qZ {x:Int} {n:Nat} (h:x.natAbs<2^n) (hn:1≤n):Sz (x:Rat) n:=
 ⟨by rw[Rat.num_intCast];exact h,by rw[Rat.den_intCast];exact Nat.lt_of_lt_of_le (show 1<2^1 by decide) (Nat.pow_le_pow_right (by decide) hn)⟩
def cO (x:Rat):Prop:=∃z:Int,(z:Rat)=x*55440∧-110880≤z∧z≤776160
theorem cO.sz {x:Rat} (h:cO x):Sz x 40:=by
 obtain⟨z,e,h1,h2⟩:=h
 have:x=(z:Rat)/((55440:Int):Rat):=by
  rw[e,Rat.div_def,Rat.mul_assoc,show(55440:Rat)=((55440:Int):Rat)from rfl,Rat.mul_inv_cancel _ (by decide+kernel),Rat.mul_one]
 rw[this]
 exact(qZ (n:=20) (by omega) (by decide)).div (qZ (n:=20) (by decide) (by decide))
theorem cO.order {x y:Rat} {z w:Int} (h:(z:Rat)=x*55440) (h':(w:Rat)=y*55440) (hxy:x≤y):z≤w:=by
 have:(z:Rat)≤(w:Rat):=by rw[h,h'];exact Rat.mul_le_mul_of_nonneg_right hxy (by decide+kernel)
 exact Rat.intCast_le_intCast.1 this
theorem afj {x y f:Rat} {u v:Int} {s:Nat} (hf:f*(v:Rat)=(u:Rat)) (h0:0≤u) (h1:u≤v) (h2:0<v) (h3:v<2^20) (hx:Sz x s) (hy:Sz y s):Sz (x+f*(y-x)) (2*s+61):=by
 have hv:(v:Rat)≠0:=by
  intro e
  have:v=0:=by
   have e2:(v:Rat)=((0:Int):Rat):=e
   exact Rat.intCast_inj.1 e2
  omega
 have key:x+f*(y-x)=(((v-u:Int):Rat)*x+(u:Rat)*y)/(v:Rat):=by
  have e1:((v-u:Int):Rat)=(v:Rat)-(u:Rat):=by rw[Rat.intCast_sub]
  rw[e1,Rat.div_def,←hf]
  have e2:((v:Rat)-f*(v:Rat))*x+f*(v:Rat)*y=(x+f*(y-x))*(v:Rat):=by grind
  rw[e2,Rat.mul_assoc,Rat.mul_inv_cancel _ hv,Rat.mul_one]
 rw[key]
 have a1:=(qZ (x:=v-u) (n:=20) (by omega) (by decide)).mul hx
 have a2:=(qZ (x:=u) (n:=20) (by omega) (by decide)).mul hy
 have a3:=(a1.add a2).div (qZ (x:=v) (n:=20) (by omega) (by decide))
 exact a3.more (by omega)
theorem Db {k x:Nat→Rat} {p a j n s:Nat} {t:Rat} (hs:∀i,i+1<n→k i≤k (i+1)) (hlo:k a≤t) (hhi:t<k (a+1)) (hn:a+p<n) (hk:∀i,cO (k i)) (ht:cO t) (hx:∀i,Sz (x i) s):Sz (fU k p x t a j) (2*s+61):=by
 unfold fU
 split
 ·exact(hx _).more (by omega)
 ·split
  ·exact(hx _).more (by omega)
  ·have m1:=fS hs (show j≤a by omega) (by omega)
   have m2:=fS hs (show a+1≤j+p by omega) (by omega)
   have hw:k j<k (j+p):=by grind
   obtain⟨z1,e1,b1,c1⟩:=hk j
   obtain⟨z2,e2,b2,c2⟩:=hk (j+p)
   obtain⟨z3,e3,b3,c3⟩:=ht
   have o1:=cO.order e1 e3 (by grind)
   have o2:=cO.order e3 e2 (by grind)
   have o3:z1<z2:=by
    have:(z1:Rat)<(z2:Rat):=by rw[e1,e2];exact Rat.mul_lt_mul_of_pos_right hw (by decide+kernel)
    exact Rat.intCast_lt_intCast.1 this
   refine afj (u:=z3-z1) (v:=z2-z1) ?_ (by omega) (by omega) (by omega) (by omega) (hx _) (hx _)
   have hf:=l6 (t:=t) hw
   rw[Rat.intCast_sub,Rat.intCast_sub,e1,e2,e3]
   have:fr (k j) (k (j+p)) t*(k (j+p)*55440-k j*55440)=fr (k j) (k (j+p)) t*(k (j+p)-k j)*55440:=by grind
   rw[this,hf];grind
theorem OJ {k:Nat→Rat} {t:Rat} {q:Nat} (hk:∀i,cO (k i)) (ht:cO t) (i:Nat):cO (cK k t q i):=by
 unfold cK
 split
 ·exact hk _
 ·split
  ·exact ht
  ·exact hk _
end Go.Am.B

/- Several gl inserted: all polar forms stay (plain). -/
namespace Go.Am.B
def mM (p n:Nat) (k:Nat→Rat) (x:Nat→Nat→Rat) (N:Nat) (K:Nat→Rat) (X:Nat→Nat→Rat):Prop:=
 ∀Q,At N K Q→∃P,At n k P∧k P≤K Q∧K (Q+1)≤k (P+1)∧∀e l,l.length=p→lO K p (X e) Q l=lO k p (x e) P l
theorem mM.refl {p n:Nat} {k:Nat→Rat} {x:Nat→Nat→Rat}:mM p n k x n k x:=fun Q h=>⟨Q,h,Rat.le_refl,Rat.le_refl,fun _ _ _=>rfl⟩
theorem Kn.Hq {n p P:Nat} {k:Nat→Rat} (h:Kn n p k) (hA:At n k P):p≤P∧P+p+1<n:=by
 have hw:=hA.wide
 have hlt:=hA.lt
 have hl:=h.len
 constructor
 ·by_cases c:p≤P
  ·exact c
  ·rw[h.first P (by omega),h.first (P+1) (by omega)]at hw
   exact absurd hw Rat.lt_irrefl
 ·by_cases c:P+p+1<n
  ·exact c
  ·rw[h.last P (by omega) (by omega),h.last (P+1) (by omega) (by omega)]at hw
   exact absurd hw Rat.lt_irrefl
theorem mM.ins {p n N a:Nat} {k K:Nat→Rat} {x X:Nat→Nat→Rat} {t:Rat} (h:mM p n k x N K X) (hK:Kn N p K) (h0:K 0<t) (h1:t<K (N-1)) (hlo:K a≤t) (hhi:t<K (a+1)) (ha:a+1<N) (ht:aU K t N<p):
  mM p n k x (N+1) (cK K t (a+1)) fun e=>fU K p (X e) t a:=by
 intro Q hQ
 have hK':=hK.cK h0 h1 hlo hhi ha ht
 obtain⟨g1,g2⟩:=hK.k9 h0 h1 hlo hhi ha
 obtain⟨hA,_,_,_⟩:=Lv hK.sorted hlo hhi ha (by have:=hQ.lt;omega) hQ.wide
 obtain⟨w1,w2⟩:=hK.Hq hA
 obtain⟨v1,v2⟩:=hK'.Hq hQ
 obtain⟨P,p1,p2,p3,p4⟩:=h _ hA
 refine⟨P,p1,?_,?_,fun e l hl=>?_⟩
 ·refine Rat.le_trans p2 ?_
  unfold gp
  by_cases c1:Q≤a
  ·rw[if_pos c1,gP (by omega)];exact Rat.le_refl
  ·rw[if_neg c1]
   by_cases c2:Q=a+1
   ·subst c2;rw[nQ];exact hlo
   ·rw[gW (by omega)];exact Rat.le_refl
 ·refine Rat.le_trans ?_ p3
  unfold gp
  by_cases c1:Q≤a
  ·rw[if_pos c1]
   by_cases c2:Q=a
   ·subst c2;rw[nQ];exact Rat.le_of_lt hhi
   ·rw[gP (by omega)];exact Rat.le_refl
  ·rw[if_neg c1,gW (by omega),show Q+1-1=Q-1+1 by omega];exact Rat.le_refl
 ·rw[←p4 e l hl]
  exact aiW (n:=N) hK.sorted hK.p1 hlo hhi g1 hA w1 (by omega) hQ v1 (by omega) hl
theorem mM.ajq {p n N j Q:Nat} {k K:Nat→Rat} {x X:Nat→Nat→Rat} (h:mM p n k x N K X) (hK:Kn N p K) (hQ:At N K Q) (h1:j≤Q) (h2:Q≤j+p):
  ∃P,At n k P∧bz n k (K Q)=P∧∀e,lO k p (x e) P (bQ K (j+1) p)=X e j:=by
 obtain⟨w1,w2⟩:=hK.Hq hQ
 obtain⟨P,p1,p2,p3,p4⟩:=h Q hQ
 have hw:=hQ.wide
 refine⟨P,p1,rR ⟨p1,p2,by grind,.inl (by grind)⟩,fun e=>?_⟩
 rw[←p4 e _ kT]
 exact wO hQ w1 (by omega) h2 h1
end Go.Am.B

/- Curves of drawn ones by insertions: valid, and their numbers are short. -/
namespace Go.Am.B
open Go Go.Am.N AV aa ak IntKind
structure dG (c:Cu) (s:Nat):Prop where
 kn:dU c
 pos:∀i,0<(c.f i).d
 kd:∀i,cO (c.k i)
 sx:∀i,Sz (b9 (c.f i)).n.x s
 sy:∀i,Sz (b9 (c.f i)).n.y s
 sz:∀i,Sz (b9 (c.f i)).n.z s
 sd:∀i,Sz (c.f i).d s
theorem MM {h:Pl} (hd:h.d≠0):b9 (dZ h)=h:=by
 obtain⟨⟨x,y,z⟩,d⟩:=h
 have key:∀x:Rat,d*(x/d)=x:=fun x=>by rw[Rat.div_def,Rat.mul_comm d,Rat.mul_assoc,Rat.inv_mul_cancel _ hd,Rat.mul_one]
 unfold dZ b9
 dsimp only
 rw[key,key,key]
theorem Qd {c:Cu} {t:Rat} {a i:Nat} (hc:dU c) (hp:∀i,0<(c.f i).d) (h0:c.k 0<t) (h1:t<c.k (c.n-1)) (hlo:c.k a≤t) (hhi:t<c.k (a+1)) (ha:a+1<c.n):0<(j0 c t a i).d:=by
 obtain⟨g1,g2⟩:=hc.1.k9 h0 h1 hlo hhi ha
 exact Ub (n:=c.n) hc.1.sorted hlo hhi (by omega) fun i=>hp i
theorem pK {x:Rat} (h:0<x):x≠0:=fun e=>by rw[e]at h;exact absurd h Rat.lt_irrefl
theorem dG.ins {c:Cu} {s:Nat} {t:Rat} (h:dG c s) (ht:cO t) (he:cw c t=0):dG (dJ c t) (2*s+61):=by
 obtain⟨e1,e2,e3,e4⟩:=Ev he
 obtain⟨k1,k2,k3,k4,k5⟩:=id h.kn
 obtain⟨a1,a2,a3⟩:=lK k1 e1 e2
 obtain⟨g1,g2⟩:=k1.k9 e1 e2 a1 a2 a3
 rw[show dJ c t=kM c t (bz c.n c.k t)from if_pos he]
 have hpos:∀i,0<(j0 c t (bz c.n c.k t) i).d:=fun i=>Qd h.kn h.pos e1 e2 a1 a2 a3
 have hl:∀i,b9 (dZ (j0 c t (bz c.n c.k t) i))=j0 c t (bz c.n c.k t) i:=fun i=>MM (pK (hpos i))
 refine⟨⟨k1.cK e1 e2 a1 a2 a3 e3,k2,k3,show c.n+1≤c.p.toNat+41 by omega,show((c.m+1:Nat):Int)=((c.n+1:Nat):Int)-c.p-1 by omega⟩,hpos,OJ h.kd ht,fun i=>?_,fun i=>?_,fun i=>?_,fun i=>?_⟩
 ·show Sz (b9 (dZ (j0 c t (bz c.n c.k t) i))).n.x _
  rw[hl];exact Db (n:=c.n) k1.sorted a1 a2 (by omega) h.kd ht h.sx
 ·show Sz (b9 (dZ (j0 c t (bz c.n c.k t) i))).n.y _
  rw[hl];exact Db (n:=c.n) k1.sorted a1 a2 (by omega) h.kd ht h.sy
 ·show Sz (b9 (dZ (j0 c t (bz c.n c.k t) i))).n.z _
  rw[hl];exact Db (n:=c.n) k1.sorted a1 a2 (by omega) h.kd ht h.sz
 ·exact Db (n:=c.n) k1.sorted a1 a2 (by omega) h.kd ht h.sd
theorem dG.Ij {c:Cu} {s r:Nat} (h:dG c s):bK (fun i=>.rat (c.k i) r) c.n 2000:=fun i _=>ew rfl ((h.kd i).sz.more (by decide))
theorem dG.x {c:Cu} {s:Nat} (h:dG c s) (i:Nat):Sz (c.f i).n.x (s+s)∧Sz (c.f i).n.y (s+s)∧Sz (c.f i).n.z (s+s):=by
 have e:=tN (pK (h.pos i))
 have d:(b9 (c.f i)).d=(c.f i).d:=rfl
 refine⟨?_,?_,?_⟩
 ·rw[←e];exact(h.sx i).div (d▸h.sd i)
 ·rw[←e];exact(h.sy i).div (d▸h.sd i)
 ·rw[←e];exact(h.sz i).div (d▸h.sd i)
theorem dG.Gi {c:Cu} {s r:Nat} (h:dG c s) (hs:s≤1000):fj (fun i=>bI (c.f i) r) c.m 2000:=fun i _=>by
 obtain⟨a,b,d⟩:=h.x i
 exact cB ⟨cB ⟨ew rfl (a.more (by omega)),ew rfl (b.more (by omega)),ew rfl (d.more (by omega)),trivial⟩,ew rfl ((h.sd i).more (by omega)),trivial⟩
end Go.Am.B

/- curve.Refine, ref10.Refine. -/
namespace Go.Am.B
open Go Go.Am.N AV aa ak IntKind
theorem PV:aP P zE qh (au qh):=aQ aeW (by kernel_rfl) (by kernel_rfl) (by kernel_rfl)
theorem LH:aP P Bb ru (au ru):=aQ RY (by kernel_rfl) (by kernel_rfl) (by kernel_rfl)
def gB (c:Cu) (t:Nat→Rat):Nat→Cu
 |0=>c
 |r+1=>dJ (gB c t r) (t r)
def eL (c:Cu) (t:Nat→Rat):Nat→Int
 |0=>0
 |r+1=>if eL c t r=0 then cw (gB c t r) (t r)else eL c t r
def jC (c:Cu) (t:Nat→Rat) (n:Nat):Cu:=if eL c t n=0 then gB c t n else gM
noncomputable def Cx:aS:=nG::(mY,Iq)::(p7,Bp)::(oT,Mz)::[]
noncomputable def BJ:aS:=nG::(uQ,Ji)::[]
abbrev yx:List Nat:=[4,5,2,13,14,15]
abbrev FT (n:Nat) (t:Nat→Rat) (i:Nat):List AV:=[.ptr 0 0 3 0 [],.int .i64 0,.ptr 1 0 3 0 [],bq t n 2000,.int .i64 n,.int .i64 i]
abbrev uE (c:Cu):aC:=[(1,⟨false,true,3,1,fun _=>bh c 2000 sE⟩),(0,ta)]
noncomputable abbrev sR:Code:=au qh
abbrev Bg:List Nat:=[4,5,2,1,6]
abbrev Hr (n:Nat) (t:Nat→Rat) (i:Nat):List AV:=[.ptr 0 0 3 0 [],.int .i64 0,.ptr 1 0 3 0 [],bq t n 2000,.int .i64 i]
noncomputable abbrev sS:Code:=au ru
theorem YE {c:Cu} {n:Nat} {t:Nat→Rat}:aJ T Cx [] 60 yx (before sR [1,1,0,1]) ⟨aN 0 [bh c 2000 2000,bq t n 2000],[],0⟩=
  let c3:Prop:=c.n<2^40;let c2:AV:=int i64 (0:Int);let c1:AV:=aT (bh c 2000 2000);some (ag [(0:Nat)<1,bK (fun i↦rat (c.k i) 2000) c.n sJ,fj (fun i↦bI (c.f i) 2000) c.m sJ,c3,c.m<2^30,bK (fun i↦rat (aO (rat (c.k i) 2000)) sJ) c.n sK,jF (fun i↦cP (b9 (fI (bI (c.f i) 2000))) (sJ+sJ)) c.m sB,c3,c.m<2^29,(0:Nat)<1] (leaf normal ([ptr 4096 0 3 0 [],c2,ptr 0 0 c1.size 0 [],aj 3 n fun i↦rat (t i) 2000,int i64 (↑n:Int),c2],[((0:Nat),ah.mk false true c1.size 1 fun j↦if(j==0)=true then aT (bh (Cu.mk c.p c.n (fun i↦aO (rat (aO (rat (c.k i) 2000)) sJ)) c.m fun i↦dZ (qW (cP (b9 (fI (bI (c.f i) 2000))) (sJ+sJ)))) (sK+10) (sB+sB))else c1),((4096:Nat),ah.mk false true 3 1 fun x↦agg [c2,nil,nil])]))):=by kernel_rfl
theorem aiV {c:Cu} {n i:Nat} {t:Nat→Rat}:aJ T Cx [16,26] 60 yx [part sR [1,1,0,1,0,0]] ⟨aB yx (FT n t i),uE c,2⟩=
  let c13:Int:=(↑n:Int);let c11:AV:=int i64 (0:Int);let c10:AV:=ptr 1 0 3 0 [];let c9:AV:=aj 3 n fun i↦rat (t i) 2000;let c7:Int:=(↑i:Int);let c6:AV:=ptr 0 0 3 0 [];let c5:Prop:=0<1;let c2:Cu:=Cu.mk c.p c.n (fun i↦aO (rat (c.k i) 2000)) c.m fun i↦fI (bI (c.f i) sE);let c1:Nat×ah:=((1:Nat),ah.mk false true 3 1 fun x↦agg [int i64 c.p,aj 3 c.n fun i↦rat (c.k i) 2000,aj 12 c.m fun i↦agg [agg [rat (c.f i).n.x 4294967298,rat (c.f i).n.y 4294967298,rat (c.f i).n.z 4294967298],rat (c.f i).d 4294967298]]);let c12:Int:=c7+(1:Int);let c4:AV:=agg [c11,nil,nil];let c3:List AV:=[c10,c9,int i64 c13,int i64 c7];let c8:Nat×ah:=((0:Nat),ah.mk false true 3 1 fun x↦c4);some (fork (decide (c7<c13)) (ag [(0:Int)≤c7∧c7.toNat<n,c5] (ag [c5,c5,bK (fun i↦rat (c.k i) 2000) c.n 2000,fj (fun i↦bI (c.f i) sE) c.m 2000,(2000:Nat)≤2000,dU c2,c5] (fork (cw c2 (t c7.toNat)!=(0:Int)) (ag [c5] (leaf ret (c6::int i64 (cw c2 (t c7.toNat))::c3,[c1,((0:Nat),ah.mk false true 3 1 fun j↦if(j==0)=true then aT (agg c4.kids)else c4)]))) (ag [c5,c5] (ag [-(2:Int)^63≤c12∧c12<(2:Int)^63] (leaf normal ([c6,c11,c10,c9,int i64 c13,int i64 c12],[((1:Nat),ah.mk false true 3 1 fun j↦if(j==0)=true then aT (if((0:Nat)==0)=true then aT (bh (dJ c2 (t c7.toNat)) (sK+10) (sB+sB))else c4)else bh c 2000 sE),c8]))))))) (leaf (exit 0) (c6::c11::c3,[c1,c8]))):=by kernel_rfl
theorem aiO {c:Cu} {n i:Nat} {t:Nat→Rat}:bY T Cx [] 60 qh [part sR [1,1,1]] ⟨aB yx (FT n t i),uE c,2⟩=
  let c1:Prop:=0<1;some (ag [c1,c1] (ag [c1] (leaf ret [agg [int i64 c.p,aj 3 c.n fun i↦rat (c.k i) 2000,aj 12 c.m fun i↦agg [agg [rat (c.f i).n.x 4294967298,rat (c.f i).n.y 4294967298,rat (c.f i).n.z 4294967298],rat (c.f i).d 4294967298]],int i64 (0:Int)]))):=by kernel_rfl
theorem aex {c:Cu} {n:Nat} {t:Nat→Rat}:aJ T BJ [] 60 Bg (before sS [1,0,1]) ⟨aN 0 [bh c 2000 2000,bq t n 2000],[],0⟩=
  let c2:AV:=int i64 (0:Int);let c1:Nat:=(aT (bh c 2000 2000)).size;some (leaf normal ([ptr 4096 0 3 0 [],c2,ptr 0 0 c1 0 [],aj 3 n fun i↦rat (t i) 2000,c2],[((0:Nat),ah.mk false true c1 1 fun x↦agg [int i64 c.p,aj 3 c.n fun i↦rat (c.k i) 2000,aj 12 c.m fun i↦agg [agg [rat (c.f i).n.x 2000,rat (c.f i).n.y 2000,rat (c.f i).n.z 2000],rat (c.f i).d 2000]]),((4096:Nat),ah.mk false true 3 1 fun x↦agg [c2,nil,nil])])):=by kernel_rfl
theorem TC {c:Cu} {n i:Nat} {t:Nat→Rat}:aJ T BJ [12,25] 60 Bg [part sS [1,0,1,0,0]] ⟨aB Bg (Hr n t i),uE c,2⟩=
  let c11:AV:=int i64 (0:Int);let c10:AV:=ptr 1 0 3 0 [];let c9:AV:=aj 3 n fun i↦rat (t i) 2000;let c7:Int:=(↑i:Int);let c6:Prop:=0<1;let c5:AV:=ptr 0 0 3 0 [];let c2:Cu:=Cu.mk c.p c.n (fun i↦aO (rat (c.k i) 2000)) c.m fun i↦fI (bI (c.f i) sE);let c1:Nat×ah:=((1:Nat),ah.mk false true 3 1 fun x↦agg [int i64 c.p,aj 3 c.n fun i↦rat (c.k i) 2000,aj 12 c.m fun i↦agg [agg [rat (c.f i).n.x 4294967298,rat (c.f i).n.y 4294967298,rat (c.f i).n.z 4294967298],rat (c.f i).d 4294967298]]);let c12:Int:=c7+(1:Int);let c4:List AV:=[c10,c9,int i64 c7];let c3:AV:=agg [c11,nil,nil];let c8:Nat×ah:=((0:Nat),ah.mk false true 3 1 fun x↦c3);some (fork (decide (c7<(↑n:Int))) (ag [c6,(0:Int)≤c7∧c7.toNat<n,bK (fun i↦rat (c.k i) 2000) c.n 2000,fj (fun i↦bI (c.f i) sE) c.m 2000,(2000:Nat)≤2000,dU c2,∀(i:Nat),aO (rat (c.f i).d sE)≠0,c6] (fork (cw c2 (t c7.toNat)!=(0:Int)) (ag [c6] (leaf ret (c5::int i64 (cw c2 (t c7.toNat))::c4,[c1,((0:Nat),ah.mk false true 3 1 fun j↦if(j==0)=true then aT (agg c3.kids)else c3)]))) (ag [c6,c6] (ag [-(2:Int)^63≤c12∧c12<(2:Int)^63] (leaf normal ([c5,c11,c10,c9,int i64 c12],[((1:Nat),ah.mk false true 3 1 fun j↦if(j==0)=true then aT (if((0:Nat)==0)=true then aT (bh (dJ c2 (t c7.toNat)) 2002 sE)else c3)else bh c 2000 sE),c8])))))) (leaf (exit 0) (c5::c11::c4,[c1,c8]))):=by kernel_rfl
theorem ai4 {c:Cu} {n i:Nat} {t:Nat→Rat}:bY T BJ [] 60 ru [part sS [1,1]] ⟨aB Bg (Hr n t i),uE c,2⟩=
  let c1:Prop:=0<1;some (ag [c1,c1] (ag [c1] (leaf ret [agg [int i64 c.p,aj 3 c.n fun i↦rat (c.k i) 2000,aj 12 c.m fun i↦agg [agg [rat (c.f i).n.x 4294967298,rat (c.f i).n.y 4294967298,rat (c.f i).n.z 4294967298],rat (c.f i).d 4294967298]],int i64 (0:Int)]))):=by kernel_rfl
theorem ac8 {c:Cu} {e:Int}:ji T qh .ret ⟨aB [4,5,2] [.ptr 0 0 3 0 [],.int .i64 e,.ptr 1 0 3 0 []],[(1,⟨false,true,3,1,fun _=>bh c 2000 sE⟩),(0,⟨false,true,3,1,fun j=>if(j==0)=true then aT (.agg (AV.kids (.agg [.int .i64 0,.nil,.nil])))else .agg [.int .i64 0,.nil,.nil]⟩)],2⟩=
  some (ag [(0:Nat)<1] (leaf ret [agg [int i64 (0:Int),nil,nil],int i64 e])):=by kernel_rfl
theorem WA {c:Cu} {e:Int}:ji T ru .ret ⟨aB [4,5,2] [.ptr 0 0 3 0 [],.int .i64 e,.ptr 1 0 3 0 []],[(1,⟨false,true,3,1,fun _=>bh c 2000 sE⟩),(0,⟨false,true,3,1,fun j=>if(j==0)=true then aT (.agg (AV.kids (.agg [.int .i64 0,.nil,.nil])))else .agg [.int .i64 0,.nil,.nil]⟩)],2⟩=
  some (ag [(0:Nat)<1] (leaf ret [agg [int i64 (0:Int),nil,nil],int i64 e])):=by kernel_rfl
theorem OT:aW P Cx:=cL (aH Nx (aH Hv (aH Ok bp)))
theorem Qa:aW P BJ:=cL (aH Nb bp)
def qz:Nat→Nat
 |0=>5
 |r+1=>2*qz r+61
theorem Gf {r:Nat} (h:r≤4):qz r≤1000:=by
 rcases(show r=0∨r=1∨r=2∨r=3∨r=4 by omega)with rfl|rfl|rfl|rfl|rfl<;>decide
theorem acY {c:Cu} {t:Nat→Rat} {r:Nat} (h:eL c t (r+1)=0):eL c t r=0∧cw (gB c t r) (t r)=0:=by
 unfold eL at h
 split at h
 ·rename_i g;exact⟨g,h⟩
 ·rename_i g;exact absurd h g
theorem lQ {c:Cu} {t:Nat→Rat} (hc:dG c 5) (ht:∀i,cO (t i)):∀{r:Nat},eL c t r=0→dG (gB c t r) (qz r)
 |0,_=>hc
 |r+1,h=>by
  obtain⟨h1,h2⟩:=acY h
  exact(lQ hc ht h1).ins (ht r) h2
theorem Mu {c:Cu} {t:Nat→Rat} {r:Nat} (h:eL c t r≠0):∀{m:Nat},eL c t (r+m)=eL c t r
 |0=>rfl
 |m+1=>by
  have:=Mu h (m:=m)
  rw[←Nat.add_assoc,eL,if_neg (by rw[this];exact h),this]
theorem OG {c:Cu} {t:Nat→Rat} {r n:Nat} (h:eL c t r=0) (he:cw (gB c t r) (t r)≠0) (hr:r<n):eL c t n=cw (gB c t r) (t r)∧jC c t n=gM:=by
 have e1:eL c t (r+1)=cw (gB c t r) (t r):=if_pos h
 have e2:=Mu (c:=c) (t:=t) (r:=r+1) (by rw[e1];exact he) (m:=n-(r+1))
 rw[show r+1+(n-(r+1))=n by omega,e1]at e2
 exact⟨e2,if_neg (by rw[e2];exact he)⟩
theorem Ie {c:Cu} {t:Nat→Rat} {r:Nat} (h:eL c t r=0) (he:cw (gB c t r) (t r)=0):eL c t (r+1)=0:=(if_pos h:eL c t (r+1)=_).trans he
theorem rP {c:Cu} {s x y:Nat} (h:dG c s) (hy:y≤sE):bw (bh c x y) (bh c 2000 sE):=
 cB ⟨.refl _,fT fun i _=>ew rfl ((h.kd i).sz.more (by decide)),fT fun i _=>cB ⟨cB ⟨bG rfl hy,bG rfl hy,bG rfl hy,trivial⟩,bG rfl hy,trivial⟩,trivial⟩
theorem ah0 {c:Cu} {s x y:Nat} (h:dG c s) (hy:y≤sE):bw (bh ⟨c.p,c.n,c.k,c.m,fun i=>dZ (b9 (c.f i))⟩ x y) (bh c 2000 sE):=by
 rw[show(⟨c.p,c.n,c.k,c.m,fun i=>dZ (b9 (c.f i))⟩:Cu)=c by
  obtain⟨p,n,k,m,f⟩:=c
  congr 1
  funext i
  exact tN (pK (h.pos i))]
 exact rP h hy
set_option maxHeartbeats 1000000 in
theorem acj {c:Cu} {n:Nat} {t:Nat→Rat} (hc:dG c 5) (ht:∀i,cO (t i)) (hn:n≤5) (K:Nat):aA P zE K [bh c 2000 2000,bq t n 2000] [] (aG (.tuple [bh (jC c t n) 2000 sE,.int .i64 (eL c t n)]) []):=by
 refine gk (r:=aG (.tuple [bh (jC c t n) 2000 sE,.int .i64 (eL c t n)]) []) hT PV rfl (of_decide_eq_true (by kernel_rfl)) rfl (fun _ cx h00=>?_) K []
 have hk:=nP h00
 obtain⟨k1,k2,k3,k4,k5⟩:=id hc.kn
 refine aq.jE hT OT hm (x:=sR) [1,1,0,1] (i:=0) (y:=part sR [1,1,0,1,0,0]) (z:=part sR [1,1,1]) (by kernel_rfl) (by kernel_rfl) (by kernel_rfl) PV.dst hk (f1:=[]) (f2:=[16,26]) 60 yx 2
  (fun i:Nat=>FT n t i) (fun i=>uE (gB c t i)) (fun i=>i≤n∧eL c t i=0) (fun i=>i=n∧eL c t n=0) (fun i=>n-i) (q9 T qh [4,5,2] (.tuple [bh (jC c t n) 2000 sE,.int .i64 (eL c t n)]))
  ⟨_,YE,?_⟩ (fun i hi=>⟨_,aiV,?_⟩) (fun i hi=>?_) (fun v s' hv hs'=>hv.fin (L1:=[13,14,15]) hk hs')
 ·simp only[aa.all,ax]
  refine⟨?_,0,⟨Nat.zero_le _,rfl⟩,[(0,4096),(1,0)],rfl,rfl,rfl,aF rfl rfl (.inr ⟨rfl,ah0 hc (by decide)⟩) (aF rfl rfl (aE rfl rfl) trivial)⟩
  (repeat' with_reducible refine And.intro ?_ ?_)
  all_goals first|omega|exact ct (by decide)|exact gU (by decide)|exact m9 (by decide)
 ·obtain⟨i1,i2⟩:=hi
  have hd:=lQ hc ht i2
  simp only[aa.all,ax,decide_eq_true_eq,decide_eq_false_iff_not,bne_iff_ne,ne_eq,bne_eq_false_iff_eq,Int.toNat_natCast]
  refine⟨fun h1=>⟨by omega,⟨by omega,by omega,hd.Ij,hd.Gi (Gf (by omega)),by omega,hd.kn,by omega⟩,fun he=>⟨by omega,?_⟩,fun he=>⟨by omega,by omega,i+1,⟨by omega,Ie i2 he⟩,by dsimp only;omega,[(0,0),(1,1)],rfl,rfl,rfl,aF rfl rfl (.inr ⟨rfl,rP (hd.ins (ht i) he) (by decide)⟩) (aF rfl rfl (aE rfl rfl) trivial)⟩⟩,fun h1=>⟨rfl,i,⟨by omega,by rw[show n=i by omega];exact i2⟩,[(0,0),(1,1)],rfl,rfl,rfl,aF rfl rfl (aE rfl rfl) (aF rfl rfl (aE rfl rfl) trivial)⟩⟩
  obtain⟨e1,e2⟩:=OG (n:=n) i2 he (by omega)
  exact⟨[_,_,_],_,2,_,rfl,rfl,rfl,ac8,rfl,⟨⟨by omega,fun i _=>rfl⟩,⟨by omega,fun i _=>oD rfl rfl⟩,trivial⟩,Nat.zero_lt_one,by rw[e2];exact mQ,bt e1.symm,trivial⟩
 ·obtain⟨rfl,hE⟩:=hi
  refine aq.jK ((aD.fin hT OT hm 60 aiO (by kernel_rfl) ?_).mono fun _ _ h=>.inl h)
  simp only[aa.all,ax]
  exact⟨by omega,by omega,by rw[show jC c t i=gB c t i from if_pos hE];exact .refl _,bt hE.symm,trivial⟩
set_option maxHeartbeats 1000000 in
theorem Vb {c:Cu} {n:Nat} {t:Nat→Rat} (hc:dG c 5) (ht:∀i,cO (t i)) (hn:n≤5) (K:Nat):aA P Bb K [bh c 2000 2000,bq t n 2000] [] (aG (.tuple [bh (jC c t n) 2000 sE,.int .i64 (eL c t n)]) []):=by
 refine gk (r:=aG (.tuple [bh (jC c t n) 2000 sE,.int .i64 (eL c t n)]) []) hT LH rfl (of_decide_eq_true (by kernel_rfl)) rfl (fun _ cx h00=>?_) K []
 have hk:=nP h00
 refine aq.jE hT Qa hm (x:=sS) [1,0,1] (i:=0) (y:=part sS [1,0,1,0,0]) (z:=part sS [1,1]) (by kernel_rfl) (by kernel_rfl) (by kernel_rfl) LH.dst hk (f1:=[]) (f2:=[12,25]) 60 Bg 2
  (fun i:Nat=>Hr n t i) (fun i=>uE (gB c t i)) (fun i=>i≤n∧eL c t i=0) (fun i=>i=n∧eL c t n=0) (fun i=>n-i) (q9 T ru [4,5,2] (.tuple [bh (jC c t n) 2000 sE,.int .i64 (eL c t n)]))
  ⟨_,aex,?_⟩ (fun i hi=>⟨_,TC,?_⟩) (fun i hi=>?_) (fun v s' hv hs'=>hv.fin (L1:=[1,6]) hk hs')
 ·simp only[aa.all,ax]
  exact⟨0,⟨Nat.zero_le _,rfl⟩,[(0,4096),(1,0)],rfl,rfl,rfl,aF rfl rfl (.inr ⟨rfl,rP hc (by decide)⟩) (aF rfl rfl (aE rfl rfl) trivial)⟩
 ·obtain⟨i1,i2⟩:=hi
  have hd:=lQ hc ht i2
  simp only[aa.all,ax,decide_eq_true_eq,decide_eq_false_iff_not,bne_iff_ne,ne_eq,bne_eq_false_iff_eq,Int.toNat_natCast]
  refine⟨fun h1=>⟨⟨by omega,by omega,hd.Ij,hd.Gi (Gf (by omega)),by omega,hd.kn,fun i=>pK (hd.pos i),by omega⟩,fun he=>⟨by omega,?_⟩,fun he=>⟨by omega,by omega,i+1,⟨by omega,Ie i2 he⟩,by dsimp only;omega,[(0,0),(1,1)],rfl,rfl,rfl,aF rfl rfl (.inr ⟨rfl,rP (hd.ins (ht i) he) (by decide)⟩) (aF rfl rfl (aE rfl rfl) trivial)⟩⟩,fun h1=>⟨rfl,i,⟨by omega,by rw[show n=i by omega];exact i2⟩,[(0,0),(1,1)],rfl,rfl,rfl,aF rfl rfl (aE rfl rfl) (aF rfl rfl (aE rfl rfl) trivial)⟩⟩
  obtain⟨e1,e2⟩:=OG (n:=n) i2 he (by omega)
  exact⟨[_,_,_],_,2,_,rfl,rfl,rfl,WA,rfl,⟨⟨by omega,fun i _=>rfl⟩,⟨by omega,fun i _=>oD rfl rfl⟩,trivial⟩,Nat.zero_lt_one,by rw[e2];exact mQ,bt e1.symm,trivial⟩
 ·obtain⟨rfl,hE⟩:=hi
  refine aq.jK ((aD.fin hT Qa hm 60 ai4 (by kernel_rfl) ?_).mono fun _ _ h=>.inl h)
  simp only[aa.all,ax]
  exact⟨by omega,by omega,by rw[show jC c t i=gB c t i from if_pos hE];exact .refl _,bt hE.symm,trivial⟩
def Bx:Spec:=cD (kC (ij 2000 2000) (kC (kL 2000) kN)) (fun a=>.tuple [bh (jC a.1 a.2.1.2 a.2.1.1) 2000 sE,.int .i64 (eL a.1 a.2.1.2 a.2.1.1)]) fun a=>[dG a.1 5,∀i,cO (a.2.1.2 i),a.2.1.1≤5]
theorem aaY:∀K args pre q,Bx K args pre=some q→aA P zE K args pre q:=cj fun⟨c,⟨n,t⟩,_⟩ K hn=>acj hn.1 hn.2.1 hn.2.2 K
theorem QK:∀K args pre q,Bx K args pre=some q→aA P Bb K args pre q:=cj fun⟨c,⟨n,t⟩,_⟩ K hn=>Vb hn.1 hn.2.1 hn.2.2 K
end Go.Am.B

/- A curve is split where a knot occurs p times (plain). -/
namespace Go.Am.B
def dD (g:Nat→Bool):Nat→Nat
 |0=>0
 |n+1=>if dD g n<n then dD g n else if g n then n else n+1
theorem Bu {g:Nat→Bool}:∀{n:Nat},(∀j,j<n→g j=false)→dD g n=n
 |0,_=>rfl
 |n+1,h=>by
  rw[dD,Bu fun j hj=>h j (by omega),if_neg (by omega),h n (by omega)];rfl
theorem qB {g:Nat→Bool} {i:Nat} (hi:g i=true) (hb:∀j,j<i→g j=false):∀{n:Nat},i<n→dD g n=i
 |0,h=>by omega
 |n+1,h=>by
  by_cases c:i=n
  ·subst c
   rw[dD,Bu hb,if_neg (by omega),if_pos hi]
  ·rw[dD,qB hi hb (n:=n) (by omega),if_pos (by omega)]
theorem Kn.split {N p a:Nat} {K:Nat→Rat} {t:Rat} (h:Kn N p K) (h0:K 0<t) (h1:t<K (N-1)) (hlo:K a≤t) (hhi:t<K (a+1)) (ha:a+1<N) (ht:aU K t N=p):
  (∀i,i≤a→a<i+p→K i=t)∧(∀i,i+p≤a→K i<t)∧p+p≤a:=by
 obtain⟨g1,g2⟩:=h.k9 h0 h1 hlo hhi ha
 have hp:=h.p1
 have run:∀i,i≤a→a<i+p→K i=t:=fun i hi h2=>KS h.sorted hhi ha hlo hi (by rw[ht];exact h2)
 refine⟨run,fun i hi=>?_,?_⟩
 ·have m:=h.mono (show i≤a by omega) (by omega)
  by_cases e:K i=t
  ·exfalso
   have hb:∀j,i≤j→j<i+(p+1)→K j=t:=fun j hj1 hj2=>by
    have a1:=h.mono hj1 (by omega)
    have a2:=h.mono (show j≤a by omega) (by omega)
    grind
   have b1:=EH hb
   have b2:=Ey (k:=K) (t:=t) (n:=i+(p+1)) (m:=N-(i+(p+1)))
   rw[show i+(p+1)+(N-(i+(p+1)))=N by omega]at b2
   omega
  ·grind
 ·by_cases c:p+p≤a
  ·exact c
  ·have e:=run p g1 (by omega)
   rw[h.first p (Nat.le_refl _)]at e
   rw[e]at h0
   exact absurd h0 Rat.lt_irrefl
theorem Kn.firsts {N p a:Nat} {K:Nat→Rat} {t:Rat} (h:Kn N p K) (h0:K 0<t) (h1:t<K (N-1)) (hlo:K a≤t) (hhi:t<K (a+1)) (ha:a+1<N) (ht:aU K t N=p):
  dD (fun i=>decide (K 0<K i)) N=p+1∧dD (fun i=>decide (t≤K i)) N=a+1-p∧dD (fun i=>decide (t<K i)) N=a+1∧dD (fun i=>decide (K (N-1)≤K i)) N=N-p-1:=by
 obtain⟨r1,r2,r3⟩:=h.split h0 h1 hlo hhi ha ht
 obtain⟨g1,g2⟩:=h.k9 h0 h1 hlo hhi ha
 have hp:=h.p1
 have hl:=h.len
 refine⟨qB (decide_eq_true ?_) (fun j hj=>decide_eq_false ?_) (by omega),qB (decide_eq_true ?_) (fun j hj=>decide_eq_false ?_) (by omega),qB (decide_eq_true hhi) (fun j hj=>decide_eq_false ?_) (by omega),qB (decide_eq_true ?_) (fun j hj=>decide_eq_false ?_) (by omega)⟩
 ·have m:=h.mult 1 (by omega) (by omega)
  rwa [h.first 1 (by omega),show 1+p=p+1 by omega]at m
 ·rw[h.first j (by omega)];exact Rat.lt_irrefl
 ·rw[r1 (a+1-p) (by omega) (by omega)];exact Rat.le_refl
 ·exact Rat.not_le.2 (r2 j (by omega))
 ·have:=h.mono (show j≤a by omega) (by omega)
  exact Rat.not_lt.2 (Rat.le_trans this hlo)
 ·rw[h.last (N-p-1) (by omega) (by omega)];exact Rat.le_refl
 ·have m:=h.mult (N-p-2) (by omega) (by omega)
  have m1:=h.mono (show j≤N-p-2 by omega) (by omega)
  have m2:=h.mono (show N-p-2+p≤N-1 by omega) (by omega)
  exact Rat.not_le.2 (by grind)
end Go.Am.B
