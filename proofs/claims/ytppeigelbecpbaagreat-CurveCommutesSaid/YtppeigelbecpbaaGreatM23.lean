/- brepkernellaw10.CurveCommutes. -/
import Derived.Test.YtppeigelbecpbaaGreatY39
import Derived.Test.YtppeigelbecpbaaGreatY40
import Derived.Test.YtppeigelbecpbaaGreatY41
import Derived.Test.YtppeigelbecpbaaGreatY37
set_option linter.unusedVariables false
namespace Go.Am.B
open Go Go.Am.N AV aa aj IntKind
theorem Oq:aP P Iy pN (au pN):=aQ abx (by kernel_rfl) (by kernel_rfl) (by kernel_rfl)
abbrev cX (z:Nat→Int):Nat→AV:=fun i=>.int .i64 (z i)
def Gm:Spec:=fun K args pre=>match args with
 |.agg [_,.ak _ _ f,_]::_=>(match f 0 with
  |.rat _ s=>bif Nat.ble s 64 then ES 64 64 64 100 1000 K args pre else ES 5000 17179869184 64 5010 51539607900 K args pre
  |_=>none)
 |_=>none
noncomputable def Nz:aR:=[(PO,fY T (sG::uB) [] 60 Ph)]
noncomputable def LO:aR:=[(Kk,fY T (nG::Nz) [200006] 60 KO)]
noncomputable def HW:aR:=nG::(Di,IX)::(zR,QG)::(DZ,Og)::(yT,gH HI)::(DM,gH Gp)::(vf,Gm)::(Ar,HV)::(sU,OK)::(BF,N9)::(DN,Lg)::(yd,K3 1000 1000 4000 2000)::(LO++(Jk++(OC++BO)))
noncomputable abbrev BB:Code:=au pN
abbrev Da:List Nat:=[4,6,7,8]
abbrev G0 (c:Cu) (m:Mp) (t:Rat):aF:=⟨aB Da [.bool false,.ptr 0 0 36 0 [],.ptr 1 0 3 0 [],.ptr 2 0 3 0 []],[(2,tP t 2000),(1,⟨false,true,3,1,fun _=>cI c 64 64⟩),(0,⟨false,true,36,1,fun _=>lI m 64⟩)],3⟩
abbrev CM (n:Nat) (f:Nat→AV) (a:Int):V3:=⟨dU n f a,dU n f (dz n f a),dU n f (dz n f (dz n f a))⟩
abbrev aeM (n:Nat) (f:Nat→AV) (a:Int):Mp:=⟨⟨CM n f a,CM n f (bD n f a),CM n f (bD n f (bD n f a))⟩,CM n f (bD n f (bD n f (bD n f a)))⟩
theorem ai4 {n:Nat} {z:Nat→Int} {i:Int}:aH T HW [24] 60 Da (before BB [1,1,1,1,1,1]) ⟨aN 0 [.ak 1 n (cX z),.int .i64 i],[],0⟩=
  let c14:Int:=bD n (cX z) (0:Int);let c11:Nat:=Int.toNat (3:Int);let c10:Nat:=Max.max 64 64;let c5:Prop:=0<1;let c3:AV:=rat 0 1;let c13:AV:=agg [c3,c3,c3];let c9:Int:=bD n (cX z) c14;let c1:Int:=bD n (cX z) (bD n (cX z) c9);let c12:Nat:=kU n (cX z) c1 (3:Int);let c7:Rat:=nq n (cX z) (bA n c1) c12 c11 (Int.toNat (0:Int));let c2:Nat:=nH n (cX z) (bA n c1) c12 c11;let c8:Int:=(↑c2:Int)-(1:Int);let c6:Rat:=nq n (cX z) (bA n c1) c12 c11 c8.toNat;let c4:Rat:=rD c7 c6;some (fork (!decide ((↑n:Int)≤(500:Int))) (leaf ret ([AV.bool true,tuple [],tuple [],tuple []],[])) (ag [cB n (cX z) (0:Int),c5] (ag [cB n (cX z) c1,(1:Int)≤(3:Int),(3:Int)<(900:Int),(0:Int)≤(3:Int),(3:Int)<(900:Int),c5] (ag [c5,c5,((↑c2:Int)==(0:Int))=false,c5,(0:Int)≤(0:Int)∧Int.toNat (0:Int)<c2,c5,c5,-(2:Int)^63≤c8∧c8<(2:Int)^63,(0:Int)≤c8∧c8.toNat<c2,c5,c5,c5,c5,c5] (leaf normal ([AV.bool false,ptr 36864 0 36 0 [],ptr 53248 0 3 0 [],ptr 77824 0 3 0 []],[((77824:Nat),ah.mk false true 3 1 fun j↦if(j==0)=true then bn (rat (c4+lF i*(qg c7 c6-c4)) (c10+((64:Nat)+(c10+c10+1))+1))else c3),((53248:Nat),ah.mk false true 3 1 fun j↦if(j==0)=true then bn (cI (gW n (cX z) c1 (3:Int) c11 false) 64 64)else agg [int i64 (0:Int),nil,nil]),((36864:Nat),ah.mk false true 36 1 fun j↦if(j==0)=true then bn (agg [agg [pV n (cX z) (0:Int),pV n (cX z) c14,pV n (cX z) c9],pV n (cX z) (bD n (cX z) c9)])else agg [agg [c13,c13,c13],c13])])))))):=by kernel_rfl
theorem acS {c:Cu} {m:Mp} {t:Rat}:cm T HW [100075,100079,100086,100091,94,100102,100107,200110,100118,100127] 200 pN [part BB [1,1,1,1,1,1]] (G0 c m t)=
  let c34 : Prop := 2000 ≤ 2000; let c33 : Nat := cL + cL; let c30 : Prop := (bif true then true else false) = true; let c26 : Nat := c.m - 1; let c25 : Prop := eI (fun i ↦ bu (c.f i) 64) c.m 2000; let c23 : Prop := bG (fun i ↦ rat (c.k i) 64) c.n 2000; let c20 : Prop := (bif true then bif false then true else true else false) = true; let c19 : Prop := (eC c.n (fun i ↦ aS (rat (c.k i) 64)) t == (0 : Int)) = true; let c18 : Prop := bG (fun i ↦ rat (aS (rat (c.k i) 64)) 100) c.n 2000; let c15 : Nat := 2 ^ 40; let c14 : Nat := sK + 10; let c12 : Prop := Max.max 64 64 ≤ 64; let c11 : Prop := (bif true then eC c.n (fun i ↦ aS (rat (aS (rat (c.k i) 64)) 100)) t == (0 : Int) else false) = true; let c10 : Nat := 2 ^ 30; let c6 : Prop := 64 ≤ 64; let c5 : Prop := 0 < 1; let c4 : Mp := Mp.mk (M3.mk (V3.mk m.m.a.x m.m.a.y m.m.a.z) (V3.mk m.m.b.x m.m.b.y m.m.b.z) (V3.mk m.m.c.x m.m.c.y m.m.c.z)) (V3.mk m.t.x m.t.y m.t.z); let c2 : Cu := Cu.mk c.p c.n (fun i ↦ aS (rat (c.k i) 64)) c.m fun i ↦ dN (bu (c.f i) 64); let c32 : Nat := (ep c2).m; let c31 : Nat := (ep c2).n; let c28 : Bool := dj c2 t != (0 : Int); let c27 : V3 := je c2 t; let c16 : Prop := eI (fun i ↦ bu (gl c4 (dN (bu (c.f i) 64))) 1000) c.m 2000; let c13 : Cu := ey c2 t; let c1 : Cu := Cu.mk c.p c.n (fun i ↦ aS (rat (aS (rat (c.k i) 64)) 100)) c.m fun i ↦ dN (bu (gl c4 (dN (bu (c.f i) 64))) 1000); let c29 : V3 := je c1 t; let c24 : Prop := (bif true then dj c2 t == dj c1 t else false) = true; let c21 : Cu := ey c1 t; let c9 : Rat := 0 + m.m.b.x * c27.x + m.m.b.y * c27.y + m.m.b.z * c27.z + m.t.y; let c8 : Rat := 0 + m.m.c.x * c27.x + m.m.c.y * c27.y + m.m.c.z * c27.z + m.t.z; let c7 : Rat := 0 + m.m.a.x * c27.x + m.m.a.y * c27.y + m.m.a.z * c27.z + m.t.x; let c3 : List Prop := [(bif true then l5 c2 == l5 c1 else false) = true, (l5 c2 != (0 : Int)) = false, c5, c5, bG (fun i ↦ rat ((ep c2).k i) c14) c31 5000, eI (fun i ↦ bu ((ep c2).f i) c33) c32 17179869184, c12, c6, c6, c6, c6, c6, c6, c6, c6, c6, c6, c31 < c10, c32 < c10, c5, bG (fun i ↦ rat (aS (rat ((ep c2).k i) c14)) 5010) c31 cQ, eI (fun i ↦ bu (gl c4 (dN (bu ((ep c2).f i) c33))) 51539607900) c32 cQ, bG (fun i ↦ rat ((ep c1).k i) c14) (ep c1).n cQ, eI (fun i ↦ bu ((ep c1).f i) c33) (ep c1).m cQ, oR (Cu.mk (ep c2).p c31 (fun i ↦ aS (rat (aS (rat ((ep c2).k i) c14)) 5010)) c32 fun i ↦ dN (bu (gl c4 (dN (bu ((ep c2).f i) c33))) 51539607900)) (Cu.mk (ep c1).p (ep c1).n (fun i ↦ aS (rat ((ep c1).k i) c14)) (ep c1).m fun i ↦ dN (bu ((ep c1).f i) c33)), c31 < c15, c32 < c15, c20, c5, bG (fun i ↦ rat (aS (rat (c.k i) 64)) 100) c.n 1000, eI (fun i ↦ bu (gl c4 (dN (bu (c.f i) 64))) 1000) c.m 1000, c.n < c10, c.m < c10, c5, bG (fun i ↦ rat (c.k i) 64) c.n 1000, eI (fun i ↦ bu (c.f i) 64) c.m 1000, c.n < c10, c.m < c10, c5, bG (fun i ↦ rat (ia c.n (fun i ↦ aS (rat (c.k i) 64)) i) 4000) c.n 5000, eI (fun i ↦ bu (dN (bu (c.f (c26 - i)) 64)) 2000) c.m 17179869184, c12, c6, c6, c6, c6, c6, c6, c6, c6, c6, c6, c.n < c10, c.m < c10, bG (fun i ↦ rat (ia c.n (fun i ↦ aS (rat (aS (rat (c.k i) 64)) 100)) i) 4000) c.n cQ, eI (fun i ↦ bu (dN (bu (gl c4 (dN (bu (c.f (c26 - i)) 64))) 1000)) 2000) c.m cQ, bG (fun i ↦ rat (aS (rat (ia c.n (fun i ↦ aS (rat (c.k i) 64)) i) 4000)) 5010) c.n cQ, eI (fun i ↦ bu (gl c4 (dN (bu (dN (bu (c.f (c26 - i)) 64)) 2000))) 51539607900) c.m cQ, oR (Cu.mk c.p c.n (fun i ↦ aS (rat (ia c.n (fun i ↦ aS (rat (aS (rat (c.k i) 64)) 100)) i) 4000)) c.m fun i ↦ dN (bu (dN (bu (gl c4 (dN (bu (c.f (c26 - i)) 64))) 1000)) 2000)) (Cu.mk c.p c.n (fun i ↦ aS (rat (aS (rat (ia c.n (fun i ↦ aS (rat (c.k i) 64)) i) 4000)) 5010)) c.m fun i ↦ dN (bu (gl c4 (dN (bu (dN (bu (c.f (c26 - i)) 64)) 2000))) 51539607900)), c.n < c15, c.m < c15, c30]; let c35 : Prop := decide (c7 = c29.x) = true; let c22 : Prop := (bif true then decide (c9 = c29.y) else false) = true; let c17 : Prop := (bif true then bif true then decide (c8 = c29.z) else false else false) = true; some (ag [c5, c5, bG (fun i ↦ rat (c.k i) 64) c.n 64, eI (fun i ↦ bu (c.f i) 64) c.m 64, c12, c6, c6, c6, c6, c6, c6, c6, c6, c6, c6, c.n < c10, c.m < c10, c5] (ag [c5, c5, bG (fun i ↦ rat (c.k i) 64) c.n sJ, eI (fun i ↦ bu (c.f i) 64) c.m sJ, (2000 : Nat) ≤ sK, dy c2, c5] (ag [c5, c5, bG (fun i ↦ rat (aS (rat (c.k i) 64)) 100) c.n sJ, eI (fun i ↦ bu (gl c4 (dN (bu (c.f i) 64))) 1000) c.m sJ, (2000 : Nat) ≤ sK, dy c1, c5] (ag [c5, c5, c23, c25, c34, dy c2, c5] (ag [c5, c5, c18, c16, c34, dy c1, c5] (ag [c5, c23, c25, dy c2, c.n ≤ 20, c5] (ag [c5, c18, c16, dy c1, c.n ≤ 20, c5] (fork c28 (ag (c19 :: c11 :: c5 :: c5 :: c5 :: c5 :: c5 :: c5 :: c5 :: c5 :: c5 :: c35 :: c22 :: c17 :: c24 :: (c28 = true) :: c30 :: c3) (leaf ret [AV.bool true])) (ag (c19 :: c11 :: c5 :: c5 :: c5 :: c5 :: c5 :: c5 :: c5 :: c5 :: c5 :: c35 :: c22 :: c17 :: c24 :: (c28 = false) :: c5 :: c5 :: bG (fun i ↦ rat (c13.k i) c14) c13.n 5000 :: eI (fun i ↦ bu (c13.f i) (sB + sB)) c13.m 17179869184 :: c12 :: c6 :: c6 :: c6 :: c6 :: c6 :: c6 :: c6 :: c6 :: c6 :: c6 :: (c13.n < c10) :: (c13.m < c10) :: c5 :: bG (fun i ↦ rat (aS (rat (c13.k i) c14)) 5010) c13.n cQ :: eI (fun i ↦ bu (gl c4 (dN (bu (c13.f i) (sB + sB)))) 51539607900) c13.m cQ :: bG (fun i ↦ rat (c21.k i) c14) c21.n cQ :: eI (fun i ↦ bu (c21.f i) (sB + sB)) c21.m cQ :: oR (Cu.mk c13.p c13.n (fun i ↦ aS (rat (aS (rat (c13.k i) c14)) 5010)) c13.m fun i ↦ dN (bu (gl c4 (dN (bu (c13.f i) (sB + sB)))) 51539607900)) (Cu.mk c21.p c21.n (fun i ↦ aS (rat (c21.k i) c14)) c21.m fun i ↦ dN (bu (c21.f i) (sB + sB))) :: (c13.n < c15) :: (c13.m < c15) :: c20 :: c3) (leaf ret [AV.bool true])))))))))) := by kernel_rfl
theorem UJ:∀K args pre q,Gm K args pre=some q→aA P vf K args pre q:=fun K args pre q h=>by
 unfold Gm at h
 split at h
 ·split at h
  ·rename_i s _
   cases hb:Nat.ble s 64<;>rw[hb]at h
   ·exact OO (by decide) (by decide) (by decide) (by decide) K _ pre q h
   ·exact OO (by decide) (by decide) (by decide) (by decide) K _ pre q h
  ·exact absurd h (by simp)
 ·exact absurd h (by simp)
theorem XZ:aY P Nz:=aG (gd hT (iq xF) hm (aQ Sg (by kernel_rfl) (by kernel_rfl) (by kernel_rfl)) _ _) bh
theorem agz:aY P LO:=aG (gd hT (dm XZ) hm (aQ aay (by kernel_rfl) (by kernel_rfl) (by kernel_rfl)) _ _) bh
theorem JV:aY P HW:=dm (aG agU (aG ad8 (aG agG (aG ako (aG UP (aG UJ (aG Mg (aG RS (aG ahr (aG ahN (aG (acU (by decide) (by decide) (by decide) (by decide)) (qR agz (qR afn (qR R8 FX))))))))))))))
theorem ace {c:Cu} {t:Rat}:(ey c t).n≤c.n+1∧(ey c t).m≤c.m+1:=by
 unfold ey
 split
 ·exact⟨Nat.le_refl _,Nat.le_refl _⟩
 ·exact⟨Nat.zero_le _,Nat.zero_le _⟩
theorem Va {c:Cu}:(ep c).n≤c.n+c.n∧(ep c).m≤c.n+c.n:=by
 unfold ep
 split
 ·exact⟨Nat.zero_le _,Nat.zero_le _⟩
 ·have hg:=yR (k:=c.k) (n:=c.n) (i:=c.n)
  exact⟨show c.n+bE c.k c.n c.n≤_ by omega,show c.n+bE c.k c.n c.n-(c.p.toNat+1)-1≤_ by omega⟩
theorem ahy {c:Cu} {m:Mp} {t:Rat} {cx:Ctx} (hc:dy c) (hw:∀i,0<(c.f i).d) (h3:c.p≤3) (h20:c.n≤20) (hin:¬ej c.n c.k t):aD P cx pN.ntmps [part BB [1,1,1,1,1,1]] (G0 c m t) (dQ cx (Fin T pN (.bool true))):=by
 refine(aD.fin hT JV hm 200 acS (by kernel_rfl) ?_).mono fun _ _ h=>.inl h
 obtain⟨k1,k2,k3,k4,k5⟩:=id hc
 have hx:dy (de m c):=hc
 have hv:=ahO (m:=m) hc hw hin
 have hiv:(eC c.n c.k t==0)=true:=beq_iff_eq.2 (if_neg hin)
 have hel : (l5 c != 0) = false := bne_eq_false_iff_eq.2 (if_neg (by omega))
 have hI : (dj c t != 0) = false → oR (de m (ey c t)) (ey (de m c) t) := fun h => by
  rw[abc hc hw (bne_eq_false_iff_eq.1 h)];exact⟨rfl,rfl,fun _ _=>rfl,rfl,fun _ _=>rfl⟩
 have hE:=ahK (m:=m) hc hw (by omega)
 have hM:=aam (m:=m) (c:=c)
 have hX:decide ((uH m (je c t)).x=(je (de m c) t).x)=true:=decide_eq_true (congrArg V3.x hv.symm)
 have hY:decide ((uH m (je c t)).y=(je (de m c) t).y)=true:=decide_eq_true (congrArg V3.y hv.symm)
 have hZ:decide ((uH m (je c t)).z=(je (de m c) t).z)=true:=decide_eq_true (congrArg V3.z hv.symm)
 obtain⟨q1,q2⟩:=ace (c:=c) (t:=t)
 obtain⟨q3,q4⟩:=Va (c:=c)
 have b1:(ey c t).n<2^30:=by omega
 have b2:(ey c t).m<2^30:=by omega
 have b3:(ey c t).n<2^40:=by omega
 have b4:(ey c t).m<2^40:=by omega
 have b5:(ep c).n<2^30:=by omega
 have b6:(ep c).m<2^30:=by omega
 have b7:(ep c).n<2^40:=by omega
 have b8:(ep c).m<2^40:=by omega
 have hB:(dj c t==dj (de m c) t)=true:=beq_self_eq_true (dj c t)
 have hF:(l5 c==l5 (de m c))=true:=beq_self_eq_true (l5 c)
 have hS:2000≤sK:=by decide
 simp only[aa.all,ax]
 (repeat' with_reducible first|refine And.intro ?_ ?_|intro _)
 all_goals first|omega|assumption|exact cN (by decide)|exact jA (by decide)|exact .refl _|exact trivial|exact hI (by assumption)|skip
set_option maxRecDepth 20000 in
set_option maxHeartbeats 1000000 in
theorem ac4 {n:Nat} {z:Nat→Int} {i:Int} (K:Nat):aA P Iy K [.ak 1 n (fun i=>.int .i64 (z i)),.int .i64 i] [] (aK (.bool true) []):=by
 refine ij (r:=aK (.bool true) []) hT Oq rfl (of_decide_eq_true (by kernel_rfl)) rfl (fun _ cx h0=>?_) K []
 have hk:=qL h0
 have hret:nX pN Da (.bool true) ([AV.bool true,tuple [],tuple [],tuple []],[]):=⟨[.bool true],by kernel_rfl,bB.refl _⟩
 refine aq.hole [1,1,1,1,1,1] (by kernel_rfl) (aD.bf hT JV hm 60 Da ai4 (ni Oq.dst) ?_)
 simp only[aa.all,ax]
 refine⟨fun h s' hs'=>hret.fin hs',fun h=>?_⟩
 have hn:n≤500:=by simp only[Bool.not_eq_false',decide_eq_true_eq]at h;omega
 have hd:cB n (cX z) 0:=⟨fun i=>rfl,by omega,by omega,by omega⟩
 have hd2:=hd.j5.j5.j5.j5
 obtain⟨c,hc⟩:∃c,c=gW n (cX z) (bD n (cX z) (bD n (cX z) (bD n (cX z) (bD n (cX z) 0)))) 3 (Int.toNat 3) false:=⟨_,rfl⟩
 obtain⟨k1,k2,k3,k4,k5,k6⟩:=ac1 (m:=Int.toNat 3) (b:=false) hd2 (show(1:Int)≤3 by omega)
 have t3:Int.toNat 3=3:=rfl
 rw[←hc]at k1 k2 k3 k4 k5 k6
 rw[t3]at k5
 have hkc:dy c:=⟨k1,k2,by omega,by omega,k4⟩
 have hl:=k1.len
 have eN:nH n (cX z) (bA n (bD n (cX z) (bD n (cX z) (bD n (cX z) (bD n (cX z) 0))))) (kU n (cX z) (bD n (cX z) (bD n (cX z) (bD n (cX z) (bD n (cX z) 0)))) 3) (Int.toNat 3)=c.n:=by rw[hc];rfl
 have eK:nq n (cX z) (bA n (bD n (cX z) (bD n (cX z) (bD n (cX z) (bD n (cX z) 0))))) (kU n (cX z) (bD n (cX z) (bD n (cX z) (bD n (cX z) (bD n (cX z) 0)))) 3) (Int.toNat 3)=c.k:=by rw[hc];rfl
 have e1:((c.n:Int)-1).toNat=c.n-1:=by omega
 have he:c.k 0≤c.k (c.n-1):=k1.mono (Nat.zero_le _) (by omega)
 have hmin:rD (c.k 0) (c.k (c.n-1))=c.k 0:=by unfold rD;split<;>grind
 have hmax:qg (c.k 0) (c.k (c.n-1))=c.k (c.n-1):=by unfold qg;split<;>grind
 simp only[eN,eK,e1,Int.toNat_zero,hmin,hmax]
 refine⟨⟨hd,by omega⟩,⟨hd2,by omega,by omega,by omega,by omega,by omega⟩,⟨by omega,by omega,beq_eq_false_iff_ne.2 (by omega),by omega,by omega,by omega,by omega,by omega,by omega,by omega,by omega,by omega,by omega,by omega⟩,fun s' hs'=>?_⟩
 rw[show behind BB [1,1,1,1,1,1]=[]from by kernel_rfl]
 refine aq.kq (s2:=G0 c (aeM n (cX z) 0) (c.k 0+lF i*(c.k (c.n-1)-c.k 0))) (dS.le ⟨[(0,36864),(1,53248),(2,77824)],rfl,rfl,rfl,aJ rfl rfl (by exact .inr ⟨rfl,bS rfl (by decide)⟩) (aJ rfl rfl (aE rfl ?_) (aJ rfl rfl (aE rfl rfl) trivial))⟩ hs' hk) ((aq.mh (ahy hkc (fun i=>?_) ?_ ?_ k1.agx)).mono fun e s' h=>by cases e<;>exact h)
 ·rw[hc];rfl
 ·have:=(k6 i).1
  grind
 ·omega
 ·omega
end Go.Am.B
