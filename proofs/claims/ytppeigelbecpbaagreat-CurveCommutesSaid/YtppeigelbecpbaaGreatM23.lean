/- brepkernellaw10.CurveCommutes. -/
import Derived.Test.YtppeigelbecpbaaGreatY39
import Derived.Test.YtppeigelbecpbaaGreatY40
import Derived.Test.YtppeigelbecpbaaGreatY41
import Derived.Test.YtppeigelbecpbaaGreatY37
set_option linter.unusedVariables false
namespace Go.Am.B
open Go Go.Am.N AV aa aj IntKind
theorem MN:aO P Ge oH (au oH):=aQ X1 (by kernel_rfl) (by kernel_rfl) (by kernel_rfl)
abbrev cW (z:Nat→Int):Nat→AV:=fun i=>.int .i64 (z i)
def Hp:Spec:=fun K args pre=>match args with
 |.agg [_,.ak _ _ f,_]::_=>(match f 0 with
  |.rat _ s=>bif Nat.ble s 64 then Ev 64 64 64 100 1000 K args pre else Ev 5000 17179869184 64 5010 51539607900 K args pre
  |_=>none)
 |_=>none
noncomputable def QA:aR:=[(Na,fT T (sG::tL) [] 60 OC)]
noncomputable def IU:aR:=[(Kj,fT T (nG::QA) [200006] 60 Qv)]
noncomputable def Eo:aR:=nG::(Db,PI)::(yw,Pp)::(DV,NG)::(zm,gJ Ho)::(CX,gJ Ef)::(uR,Hp)::(yh,Gt)::(uY,NR)::(BS,Qd)::(Dk,Pc)::(z9,Q4 1000 1000 4000 2000)::(IU++(MR++(Qa++BI)))
noncomputable abbrev DU:Code:=au oH
abbrev C6:List Nat:=[4,6,7,8]
abbrev Hs (c:Cu) (m:Mp) (t:Rat):aF:=⟨aA C6 [.bool false,.ptr 0 0 36 0 [],.ptr 1 0 3 0 [],.ptr 2 0 3 0 []],[(2,tP t 2000),(1,⟨false,true,3,1,fun _=>cI c 64 64⟩),(0,⟨false,true,36,1,fun _=>lW m 64⟩)],3⟩
abbrev DF (n:Nat) (f:Nat→AV) (a:Int):V3:=⟨dS n f a,dS n f (dA n f a),dS n f (dA n f (dA n f a))⟩
abbrev agr (n:Nat) (f:Nat→AV) (a:Int):Mp:=⟨⟨DF n f a,DF n f (bD n f a),DF n f (bD n f (bD n f a))⟩,DF n f (bD n f (bD n f (bD n f a)))⟩
theorem ajm {n:Nat} {z:Nat→Int} {i:Int}:aH T Eo [24] 60 C6 (before DU [1,1,1,1,1,1]) ⟨aN 0 [.ak 1 n (cW z),.int .i64 i],[],0⟩=
  let c14:Int:=bD n (cW z) (0:Int);let c11:Nat:=Int.toNat (3:Int);let c10:Nat:=Max.max 64 64;let c5:Prop:=0<1;let c3:AV:=rat 0 1;let c13:AV:=agg [c3,c3,c3];let c9:Int:=bD n (cW z) c14;let c1:Int:=bD n (cW z) (bD n (cW z) c9);let c12:Nat:=kM n (cW z) c1 (3:Int);let c7:Rat:=nX n (cW z) (bA n c1) c12 c11 (Int.toNat (0:Int));let c2:Nat:=nq n (cW z) (bA n c1) c12 c11;let c8:Int:=(↑c2:Int)-(1:Int);let c6:Rat:=nX n (cW z) (bA n c1) c12 c11 c8.toNat;let c4:Rat:=qG c7 c6;some (fork (!decide ((↑n:Int)≤(500:Int))) (leaf ret ([AV.bool true,tuple [],tuple [],tuple []],[])) (ag [cC n (cW z) (0:Int),c5] (ag [cC n (cW z) c1,(1:Int)≤(3:Int),(3:Int)<(900:Int),(0:Int)≤(3:Int),(3:Int)<(900:Int),c5] (ag [c5,c5,((↑c2:Int)==(0:Int))=false,c5,(0:Int)≤(0:Int)∧Int.toNat (0:Int)<c2,c5,c5,-(2:Int)^63≤c8∧c8<(2:Int)^63,(0:Int)≤c8∧c8.toNat<c2,c5,c5,c5,c5,c5] (leaf normal ([AV.bool false,ptr 36864 0 36 0 [],ptr 53248 0 3 0 [],ptr 77824 0 3 0 []],[((77824:Nat),ah.mk false true 3 1 fun j↦if(j==0)=true then bn (rat (c4+lY i*(rJ c7 c6-c4)) (c10+((64:Nat)+(c10+c10+1))+1))else c3),((53248:Nat),ah.mk false true 3 1 fun j↦if(j==0)=true then bn (cI (gU n (cW z) c1 (3:Int) c11 false) 64 64)else agg [int i64 (0:Int),nil,nil]),((36864:Nat),ah.mk false true 36 1 fun j↦if(j==0)=true then bn (agg [agg [ow n (cW z) (0:Int),ow n (cW z) c14,ow n (cW z) c9],ow n (cW z) (bD n (cW z) c9)])else agg [agg [c13,c13,c13],c13])])))))):=by kernel_rfl
theorem Rt {c:Cu} {m:Mp} {t:Rat}:cm T Eo [100075,100079,100086,100091,94,100102,100107,200110,100118,100127] 200 oH [part DU [1,1,1,1,1,1]] (Hs c m t)=
  let c34 : Prop := 2000 ≤ 2000; let c33 : Nat := cK + cK; let c30 : Prop := (bif true then true else false) = true; let c26 : Nat := c.m - 1; let c25 : Prop := eI (fun i ↦ bu (c.f i) 64) c.m 2000; let c23 : Prop := bG (fun i ↦ rat (c.k i) 64) c.n 2000; let c20 : Prop := (bif true then bif false then true else true else false) = true; let c19 : Prop := (eE c.n (fun i ↦ aS (rat (c.k i) 64)) t == (0 : Int)) = true; let c18 : Prop := bG (fun i ↦ rat (aS (rat (c.k i) 64)) 100) c.n 2000; let c15 : Nat := 2 ^ 40; let c14 : Nat := sK + 10; let c12 : Prop := Max.max 64 64 ≤ 64; let c11 : Prop := (bif true then eE c.n (fun i ↦ aS (rat (aS (rat (c.k i) 64)) 100)) t == (0 : Int) else false) = true; let c10 : Nat := 2 ^ 30; let c6 : Prop := 64 ≤ 64; let c5 : Prop := 0 < 1; let c4 : Mp := Mp.mk (M3.mk (V3.mk m.m.a.x m.m.a.y m.m.a.z) (V3.mk m.m.b.x m.m.b.y m.m.b.z) (V3.mk m.m.c.x m.m.c.y m.m.c.z)) (V3.mk m.t.x m.t.y m.t.z); let c2 : Cu := Cu.mk c.p c.n (fun i ↦ aS (rat (c.k i) 64)) c.m fun i ↦ dL (bu (c.f i) 64); let c32 : Nat := (ep c2).m; let c31 : Nat := (ep c2).n; let c28 : Bool := dw c2 t != (0 : Int); let c27 : V3 := iR c2 t; let c16 : Prop := eI (fun i ↦ bu (gy c4 (dL (bu (c.f i) 64))) 1000) c.m 2000; let c13 : Cu := ey c2 t; let c1 : Cu := Cu.mk c.p c.n (fun i ↦ aS (rat (aS (rat (c.k i) 64)) 100)) c.m fun i ↦ dL (bu (gy c4 (dL (bu (c.f i) 64))) 1000); let c29 : V3 := iR c1 t; let c24 : Prop := (bif true then dw c2 t == dw c1 t else false) = true; let c21 : Cu := ey c1 t; let c9 : Rat := 0 + m.m.b.x * c27.x + m.m.b.y * c27.y + m.m.b.z * c27.z + m.t.y; let c8 : Rat := 0 + m.m.c.x * c27.x + m.m.c.y * c27.y + m.m.c.z * c27.z + m.t.z; let c7 : Rat := 0 + m.m.a.x * c27.x + m.m.a.y * c27.y + m.m.a.z * c27.z + m.t.x; let c3 : List Prop := [(bif true then l9 c2 == l9 c1 else false) = true, (l9 c2 != (0 : Int)) = false, c5, c5, bG (fun i ↦ rat ((ep c2).k i) c14) c31 5000, eI (fun i ↦ bu ((ep c2).f i) c33) c32 17179869184, c12, c6, c6, c6, c6, c6, c6, c6, c6, c6, c6, c31 < c10, c32 < c10, c5, bG (fun i ↦ rat (aS (rat ((ep c2).k i) c14)) 5010) c31 cO, eI (fun i ↦ bu (gy c4 (dL (bu ((ep c2).f i) c33))) 51539607900) c32 cO, bG (fun i ↦ rat ((ep c1).k i) c14) (ep c1).n cO, eI (fun i ↦ bu ((ep c1).f i) c33) (ep c1).m cO, pN (Cu.mk (ep c2).p c31 (fun i ↦ aS (rat (aS (rat ((ep c2).k i) c14)) 5010)) c32 fun i ↦ dL (bu (gy c4 (dL (bu ((ep c2).f i) c33))) 51539607900)) (Cu.mk (ep c1).p (ep c1).n (fun i ↦ aS (rat ((ep c1).k i) c14)) (ep c1).m fun i ↦ dL (bu ((ep c1).f i) c33)), c31 < c15, c32 < c15, c20, c5, bG (fun i ↦ rat (aS (rat (c.k i) 64)) 100) c.n 1000, eI (fun i ↦ bu (gy c4 (dL (bu (c.f i) 64))) 1000) c.m 1000, c.n < c10, c.m < c10, c5, bG (fun i ↦ rat (c.k i) 64) c.n 1000, eI (fun i ↦ bu (c.f i) 64) c.m 1000, c.n < c10, c.m < c10, c5, bG (fun i ↦ rat (hU c.n (fun i ↦ aS (rat (c.k i) 64)) i) 4000) c.n 5000, eI (fun i ↦ bu (dL (bu (c.f (c26 - i)) 64)) 2000) c.m 17179869184, c12, c6, c6, c6, c6, c6, c6, c6, c6, c6, c6, c.n < c10, c.m < c10, bG (fun i ↦ rat (hU c.n (fun i ↦ aS (rat (aS (rat (c.k i) 64)) 100)) i) 4000) c.n cO, eI (fun i ↦ bu (dL (bu (gy c4 (dL (bu (c.f (c26 - i)) 64))) 1000)) 2000) c.m cO, bG (fun i ↦ rat (aS (rat (hU c.n (fun i ↦ aS (rat (c.k i) 64)) i) 4000)) 5010) c.n cO, eI (fun i ↦ bu (gy c4 (dL (bu (dL (bu (c.f (c26 - i)) 64)) 2000))) 51539607900) c.m cO, pN (Cu.mk c.p c.n (fun i ↦ aS (rat (hU c.n (fun i ↦ aS (rat (aS (rat (c.k i) 64)) 100)) i) 4000)) c.m fun i ↦ dL (bu (dL (bu (gy c4 (dL (bu (c.f (c26 - i)) 64))) 1000)) 2000)) (Cu.mk c.p c.n (fun i ↦ aS (rat (aS (rat (hU c.n (fun i ↦ aS (rat (c.k i) 64)) i) 4000)) 5010)) c.m fun i ↦ dL (bu (gy c4 (dL (bu (dL (bu (c.f (c26 - i)) 64)) 2000))) 51539607900)), c.n < c15, c.m < c15, c30]; let c35 : Prop := decide (c7 = c29.x) = true; let c22 : Prop := (bif true then decide (c9 = c29.y) else false) = true; let c17 : Prop := (bif true then bif true then decide (c8 = c29.z) else false else false) = true; some (ag [c5, c5, bG (fun i ↦ rat (c.k i) 64) c.n 64, eI (fun i ↦ bu (c.f i) 64) c.m 64, c12, c6, c6, c6, c6, c6, c6, c6, c6, c6, c6, c.n < c10, c.m < c10, c5] (ag [c5, c5, bG (fun i ↦ rat (c.k i) 64) c.n sJ, eI (fun i ↦ bu (c.f i) 64) c.m sJ, (2000 : Nat) ≤ sK, dy c2, c5] (ag [c5, c5, bG (fun i ↦ rat (aS (rat (c.k i) 64)) 100) c.n sJ, eI (fun i ↦ bu (gy c4 (dL (bu (c.f i) 64))) 1000) c.m sJ, (2000 : Nat) ≤ sK, dy c1, c5] (ag [c5, c5, c23, c25, c34, dy c2, c5] (ag [c5, c5, c18, c16, c34, dy c1, c5] (ag [c5, c23, c25, dy c2, c.n ≤ 20, c5] (ag [c5, c18, c16, dy c1, c.n ≤ 20, c5] (fork c28 (ag (c19 :: c11 :: c5 :: c5 :: c5 :: c5 :: c5 :: c5 :: c5 :: c5 :: c5 :: c35 :: c22 :: c17 :: c24 :: (c28 = true) :: c30 :: c3) (leaf ret [AV.bool true])) (ag (c19 :: c11 :: c5 :: c5 :: c5 :: c5 :: c5 :: c5 :: c5 :: c5 :: c5 :: c35 :: c22 :: c17 :: c24 :: (c28 = false) :: c5 :: c5 :: bG (fun i ↦ rat (c13.k i) c14) c13.n 5000 :: eI (fun i ↦ bu (c13.f i) (sB + sB)) c13.m 17179869184 :: c12 :: c6 :: c6 :: c6 :: c6 :: c6 :: c6 :: c6 :: c6 :: c6 :: c6 :: (c13.n < c10) :: (c13.m < c10) :: c5 :: bG (fun i ↦ rat (aS (rat (c13.k i) c14)) 5010) c13.n cO :: eI (fun i ↦ bu (gy c4 (dL (bu (c13.f i) (sB + sB)))) 51539607900) c13.m cO :: bG (fun i ↦ rat (c21.k i) c14) c21.n cO :: eI (fun i ↦ bu (c21.f i) (sB + sB)) c21.m cO :: pN (Cu.mk c13.p c13.n (fun i ↦ aS (rat (aS (rat (c13.k i) c14)) 5010)) c13.m fun i ↦ dL (bu (gy c4 (dL (bu (c13.f i) (sB + sB)))) 51539607900)) (Cu.mk c21.p c21.n (fun i ↦ aS (rat (c21.k i) c14)) c21.m fun i ↦ dL (bu (c21.f i) (sB + sB))) :: (c13.n < c15) :: (c13.m < c15) :: c20 :: c3) (leaf ret [AV.bool true])))))))))) := by kernel_rfl
theorem Ys:∀K args pre q,Hp K args pre=some q→aB P uR K args pre q:=fun K args pre q h=>by
 unfold Hp at h
 split at h
 ·split at h
  ·rename_i s _
   cases hb:Nat.ble s 64<;>rw[hb]at h
   ·exact Pg (by decide) (by decide) (by decide) (by decide) K _ pre q h
   ·exact Pg (by decide) (by decide) (by decide) (by decide) K _ pre q h
  ·exact absurd h (by simp)
 ·exact absurd h (by simp)
theorem aaH:aY P QA:=aG (gd hT (ij vm) hm (aQ akN (by kernel_rfl) (by kernel_rfl) (by kernel_rfl)) _ _) bk
theorem Zb:aY P IU:=aG (gd hT (dr aaH) hm (aQ SN (by kernel_rfl) (by kernel_rfl) (by kernel_rfl)) _ _) bk
theorem QC:aY P Eo:=dr (aG X8 (aG Yc (aG W9 (aG UZ (aG acG (aG Ys (aG LO (aG RD (aG aeZ (aG ad8 (aG (WE (by decide) (by decide) (by decide) (by decide)) (qm Zb (qm Xk (qm ajX EI))))))))))))))
theorem akh {c:Cu} {t:Rat}:(ey c t).n≤c.n+1∧(ey c t).m≤c.m+1:=by
 unfold ey
 split
 ·exact⟨Nat.le_refl _,Nat.le_refl _⟩
 ·exact⟨Nat.zero_le _,Nat.zero_le _⟩
theorem XJ {c:Cu}:(ep c).n≤c.n+c.n∧(ep c).m≤c.n+c.n:=by
 unfold ep
 split
 ·exact⟨Nat.zero_le _,Nat.zero_le _⟩
 ·have hg:=zf (k:=c.k) (n:=c.n) (i:=c.n)
  exact⟨show c.n+bE c.k c.n c.n≤_ by omega,show c.n+bE c.k c.n c.n-(c.p.toNat+1)-1≤_ by omega⟩
theorem acH {c:Cu} {m:Mp} {t:Rat} {cx:Ctx} (hc:dy c) (hw:∀i,0<(c.f i).d) (h3:c.p≤3) (h20:c.n≤20) (hin:¬ek c.n c.k t):aD P cx oH.ntmps [part DU [1,1,1,1,1,1]] (Hs c m t) (dO cx (Fin T oH (.bool true))):=by
 refine(aD.fin hT QC hm 200 Rt (by kernel_rfl) ?_).mono fun _ _ h=>.inl h
 obtain⟨k1,k2,k3,k4,k5⟩:=id hc
 have hx:dy (dg m c):=hc
 have hv:=afd (m:=m) hc hw hin
 have hiv:(eE c.n c.k t==0)=true:=beq_iff_eq.2 (if_neg hin)
 have hel : (l9 c != 0) = false := bne_eq_false_iff_eq.2 (if_neg (by omega))
 have hI : (dw c t != 0) = false → pN (dg m (ey c t)) (ey (dg m c) t) := fun h => by
  rw[aaF hc hw (bne_eq_false_iff_eq.1 h)];exact⟨rfl,rfl,fun _ _=>rfl,rfl,fun _ _=>rfl⟩
 have hE:=ado (m:=m) hc hw (by omega)
 have hM:=Sa (m:=m) (c:=c)
 have hX:decide ((ta m (iR c t)).x=(iR (dg m c) t).x)=true:=decide_eq_true (congrArg V3.x hv.symm)
 have hY:decide ((ta m (iR c t)).y=(iR (dg m c) t).y)=true:=decide_eq_true (congrArg V3.y hv.symm)
 have hZ:decide ((ta m (iR c t)).z=(iR (dg m c) t).z)=true:=decide_eq_true (congrArg V3.z hv.symm)
 obtain⟨q1,q2⟩:=akh (c:=c) (t:=t)
 obtain⟨q3,q4⟩:=XJ (c:=c)
 have b1:(ey c t).n<2^30:=by omega
 have b2:(ey c t).m<2^30:=by omega
 have b3:(ey c t).n<2^40:=by omega
 have b4:(ey c t).m<2^40:=by omega
 have b5:(ep c).n<2^30:=by omega
 have b6:(ep c).m<2^30:=by omega
 have b7:(ep c).n<2^40:=by omega
 have b8:(ep c).m<2^40:=by omega
 have hB:(dw c t==dw (dg m c) t)=true:=beq_self_eq_true (dw c t)
 have hF:(l9 c==l9 (dg m c))=true:=beq_self_eq_true (l9 c)
 have hS:2000≤sK:=by decide
 simp only[aa.all,ax]
 (repeat' with_reducible first|refine And.intro ?_ ?_|intro _)
 all_goals first|omega|assumption|exact cM (by decide)|exact jO (by decide)|exact .refl _|exact trivial|exact hI (by assumption)|skip
set_option maxRecDepth 20000 in
set_option maxHeartbeats 1000000 in
theorem ZH {n:Nat} {z:Nat→Int} {i:Int} (K:Nat):aB P Ge K [.ak 1 n (fun i=>.int .i64 (z i)),.int .i64 i] [] (aK (.bool true) []):=by
 refine iq (r:=aK (.bool true) []) hT MN rfl (of_decide_eq_true (by kernel_rfl)) rfl (fun _ cx h0=>?_) K []
 have hk:=qv h0
 have hret:nU oH C6 (.bool true) ([AV.bool true,tuple [],tuple [],tuple []],[]):=⟨[.bool true],by kernel_rfl,bB.refl _⟩
 refine aq.hole [1,1,1,1,1,1] (by kernel_rfl) (aD.bf hT QC hm 60 C6 ajm (od MN.dst) ?_)
 simp only[aa.all,ax]
 refine⟨fun h s' hs'=>hret.fin hs',fun h=>?_⟩
 have hn:n≤500:=by simp only[Bool.not_eq_false',decide_eq_true_eq]at h;omega
 have hd:cC n (cW z) 0:=⟨fun i=>rfl,by omega,by omega,by omega⟩
 have hd2:=hd.kj.kj.kj.kj
 obtain⟨c,hc⟩:∃c,c=gU n (cW z) (bD n (cW z) (bD n (cW z) (bD n (cW z) (bD n (cW z) 0)))) 3 (Int.toNat 3) false:=⟨_,rfl⟩
 obtain⟨k1,k2,k3,k4,k5,k6⟩:=ahI (m:=Int.toNat 3) (b:=false) hd2 (show(1:Int)≤3 by omega)
 have t3:Int.toNat 3=3:=rfl
 rw[←hc]at k1 k2 k3 k4 k5 k6
 rw[t3]at k5
 have hkc:dy c:=⟨k1,k2,by omega,by omega,k4⟩
 have hl:=k1.len
 have eN:nq n (cW z) (bA n (bD n (cW z) (bD n (cW z) (bD n (cW z) (bD n (cW z) 0))))) (kM n (cW z) (bD n (cW z) (bD n (cW z) (bD n (cW z) (bD n (cW z) 0)))) 3) (Int.toNat 3)=c.n:=by rw[hc];rfl
 have eK:nX n (cW z) (bA n (bD n (cW z) (bD n (cW z) (bD n (cW z) (bD n (cW z) 0))))) (kM n (cW z) (bD n (cW z) (bD n (cW z) (bD n (cW z) (bD n (cW z) 0)))) 3) (Int.toNat 3)=c.k:=by rw[hc];rfl
 have e1:((c.n:Int)-1).toNat=c.n-1:=by omega
 have he:c.k 0≤c.k (c.n-1):=k1.mono (Nat.zero_le _) (by omega)
 have hmin:qG (c.k 0) (c.k (c.n-1))=c.k 0:=by unfold qG;split<;>grind
 have hmax:rJ (c.k 0) (c.k (c.n-1))=c.k (c.n-1):=by unfold rJ;split<;>grind
 simp only[eN,eK,e1,Int.toNat_zero,hmin,hmax]
 refine⟨⟨hd,by omega⟩,⟨hd2,by omega,by omega,by omega,by omega,by omega⟩,⟨by omega,by omega,beq_eq_false_iff_ne.2 (by omega),by omega,by omega,by omega,by omega,by omega,by omega,by omega,by omega,by omega,by omega,by omega⟩,fun s' hs'=>?_⟩
 rw[show behind DU [1,1,1,1,1,1]=[]from by kernel_rfl]
 refine aq.kg (s2:=Hs c (agr n (cW z) 0) (c.k 0+lY i*(c.k (c.n-1)-c.k 0))) (dU.le ⟨[(0,36864),(1,53248),(2,77824)],rfl,rfl,rfl,aJ rfl rfl (by exact .inr ⟨rfl,bS rfl (by decide)⟩) (aJ rfl rfl (aE rfl ?_) (aJ rfl rfl (aE rfl rfl) trivial))⟩ hs' hk) ((aq.mD (acH hkc (fun i=>?_) ?_ ?_ k1.Zp)).mono fun e s' h=>by cases e<;>exact h)
 ·rw[hc];rfl
 ·have:=(k6 i).1
  grind
 ·omega
 ·omega
end Go.Am.B
