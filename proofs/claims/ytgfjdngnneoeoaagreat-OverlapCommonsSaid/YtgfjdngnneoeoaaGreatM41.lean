/- brepkernellaw20.OverlapCommons, but for awake. -/
import Derived.Test.YtgfjdngnneoeoaaGreatY42
set_option linter.unusedVariables false
namespace Go.Am.B
open Go Go.Am.N AV ag ak IntKind Proofs.Tryz
theorem adm:aW 3 f3:=aN func3
def z9:Spec:=bY fun l=>match l with
 |[]=>some (aI (.bool true) [])
 |_=>none
noncomputable def Iq:aU:=nG::(5,HQ)::(6,z9)::(8,Ji)::(7,kK A7)::(9,uR)::(10,uR)::(11,cO T (sG::j3) [100010] 60 f11)::[]
theorem NR {n:Nat} {z:Nat->Int}:bD T Iq [13,100038,100043,100048] 200 f3 (aF f3) ⟨aT 0 [.aq 1 n (fun i=>.int .i64 (z i))],[],0⟩=
  let c17:Int:=q9 n (fun i=>int i64 (z i)) (0:Int);let c13:V3:=jx n (fun i=>int i64 (z i)) (0:Int);let c10:Int:=dY n (fun i=>int i64 (z i)) (0:Int);let c9:Prop:=0<1;let c5:Int:=qc n (fun i=>int i64 (z i)) (0:Int);let cH:Int:=dY n (fun i=>int i64 (z i)) c10;let c11:V3:=jx n (fun i=>int i64 (z i)) c10;let c7:Int:=eo n (fun i=>int i64 (z i)) c17 (6:Int);let c4:Int:=eo n (fun i=>int i64 (z i)) (cy n c17) (3:Int);let c19:Prop:=c4=2;let c12:Rat:=if c7=5 then 2 else 1;let c8:V3:=if c5>0 then MF n (fun i=>int i64 (z i)) (0:Int)else jx n (fun i=>int i64 (z i)) (dY n (fun i=>int i64 (z i)) cH);let c6:V3:=if c5>0 then if c5=2 then c11 else L4 n (fun i=>int i64 (z i)) (0:Int)else jx n (fun i=>int i64 (z i)) cH;let c2:Cu:=Cu.mk (1:Int) 4 (fun i=>aC (rat (bk i) 1000)) 2 fun i=>aS (aK (dJ c13 c11 c12 i) 1000);let c1:Cu:=Cu.mk (1:Int) 4 (fun i=>aC (rat ((if c19 then mo else bk) i) 1000)) 2 fun i=>aS (aK (dJ c6 c8 1 i) 1000);let c18:Rat:=(mA c2 c1).fst;let c16:Rat:=(mh c2 c1).fst;let c15:Rat:=(mA c2 c1).snd;let c14:Rat:=(mh c2 c1).snd;let c3:List Prop:=[c9,c9,bT (fun i=>rat (bk i) 1000) 4 1000,dU (fun i=>aK (dJ c13 c11 c12 i) 1000) 2 1000,bT (fun i=>rat ((if c19 then mo else bk) i) 1000) 4 1000,dU (fun i=>aK (dJ c6 c8 1 i) 1000) 2 1000,dx c2,dx c1,aC (rat (bk 0) 1000)<aC (rat (bk 3) 1000),aC (rat ((if c19 then mo else bk) 0) 1000)<aC (rat ((if c19 then mo else bk) 3) 1000),c9,c9];some (fork (!decide ((↑n:Int)<=500)) (leaf ret [AV.bool true]) (aj [dG n (fun i=>int i64 (z i)) (0:Int),c9,c9] (aj c3 (aj c3 (aj [(eA c2 c1==eA c2 c1)=true,c9,c9,decide (c18=c18)=true,(bif true then bif true then decide (c15=c15)else false else false)=true,c9,c9,decide (c16=c16)=true,(bif true then bif true then decide (c14=c14)else false else false)=true] (leaf ret [AV.bool true])))))):=ah
theorem Jb {q:Prop} [Decidable q]:(if q then mo else bk) 0<(if q then mo else bk) 3:=by
 split<;>decide+kernel
theorem RJ (hA:∀K args pre r,z9 K args pre=some r->aO P 6 K args pre r):aZ P Iq:=eV (aE af5 (aE hA (aE adA (aE aai (aE Hz (aE OF (aE (cQ hT (ct kM) hm (aN func11) _ _) bA)))))))
theorem aa7 (hA:∀K args pre r,z9 K args pre=some r->aO P 6 K args pre r) {n:Nat} {z:Nat->Int} (K:Nat):aO P 3 K [.aq 1 n (fun i=>.int .i64 (z i))] [] (aI (.bool true) []):=by
 refine bJ (r:=aI (.bool true) []) hT (RJ hA) hm adm rfl aV rfl 200 NR (fun _=>?_) K []
 simp only[ag.all,au,Bool.not_eq_true',Bool.not_eq_false',bz,bF,beq_self_eq_true,cond_true,v8]
 refine⟨fun _=>.refl _,fun h=>?_⟩
 have hd:dG n (fun i=>.int .i64 (z i)) 0:=⟨fun i=>rfl,aa,aa,aa⟩
 (repeat' with_reducible first|refine And.intro ?_ ?_|intro _)
 all_goals first|exact hd|(with_reducible first|rfl|exact dh bq|exact jb bq|exact jm|exact Jb)|omega|exact trivial|exact .refl _|exact jm|exact Jb|decide+kernel
end Go.Am.B
