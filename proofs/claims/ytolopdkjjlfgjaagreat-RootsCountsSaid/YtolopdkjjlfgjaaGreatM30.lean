/- brepkernellaw06.RootsCounts. -/
import Derived.Test.YtolopdkjjlfgjaaGreatY40
set_option linter.unusedVariables false
namespace Go.Am.B
open Go Go.Am.N AV af aq IntKind Proofs.Tryz
theorem abX:aZ 3 f3:=bf func3
def Ja:Spec:=dU (kC (kL ag) (kC (fq ag) (kC (fq ag) kN))) (fun a=>.tuple [.int .i64 (jY a.1 a.2.1 a.2.2.1),.int .i64 (ir a.1 a.2.1 a.2.2.1)]) fun a=>[x6 a.1 a.2.1 a.2.2.1]
noncomputable def Ie:bp:=nG::(11,HK)::(12,GV)::(14,Ig)::(13,kn Bx)::(15,JJ)::(16,As)::(17,Ja)::[]
theorem Ve {n:Nat} {z:Nat->Int} {i j k:Int}:bT T Ie [18,100046,100051] 60 f3 (aG f3) ⟨aQ 0 [.ak 1 n fun i=>.int .i64 (z i),.int .i64 i,.int .i64 j,.int .i64 k],[],0⟩=
  let c5:Prop:=64<=ag;let c3:Prop:=0<1;let c2:PP:=v9 n (fun i=>int i64 (z i)) (0:Int);let c4:Prop:=cV (fun i=>rat (c2.snd i) ag) c2.fst ag;let c1:Nat×(Nat->Rat):=(c2.fst,fun i=>aT (rat (c2.snd i) ag));let c7:Int:=ir c1 (kJ i k) (kJ j k);let c6:Int:=jY c1 (kJ i k) (kJ j k);some (fork (!decide ((↑n:Int)<=500)) (leaf ret [AV.bool true]) (aj [cY n (fun i=>int i64 (z i)) (0:Int),x9 n (fun i=>int i64 (z i)) (0:Int)] (aj [c3,c3] (aj [c3,c3,c4,c5,c5,wE c1 (kJ i k) (kJ j k)] (aj [c3,c3,c4,c5,c5,x6 c1 (kJ i k) (kJ j k)] (aj [(c6==c6)=true,(bif true then c7==c7 else false)=true] (leaf ret [AV.bool true]))))))):=ah
theorem T9:aY P Ja 17:=dD fun⟨_,_,_,_⟩ K hn=>VG hn K
theorem Z8:bI P Ie:=jr (aI QO (aI W8 (aI NC (aI Vw (aI acM (aI Iq (aI T9 bY)))))))
theorem Qe {n:Nat} {z:Nat->Int} {i j k:Int} (K:Nat):aO P 3 K [.ak 1 n (fun i=>.int .i64 (z i)),.int .i64 i,.int .i64 j,.int .i64 k] [] (aJ (.bool true) []):=by
 have hW:=dw
 refine cj (r:=aJ (.bool true) []) hT Z8 hm abX rfl aX rfl 60 Ve (fun _=>?_) K []
 obtain⟨A,a1,a2,a3⟩:=FN (x:=i) (y:=k)
 obtain⟨B,b1,b2,b3⟩:=FN (x:=j) (y:=k)
 have hp:=(Vp (n:=n) (f:=fun i=>.int .i64 (z i)) (a:=0)).cnt a3 a2 a1 b3 b2 b1
 simp only[af.all,az,Bool.not_eq_true',bB,Bool.not_eq_false',bz]
 refine⟨fun _=>.refl _,fun h=>⟨⟨⟨fun i=>rfl,aa,aa,aa⟩,Wc⟩,⟨aa,aa⟩,⟨aa,aa,dg aP,aa,aa,hp.1⟩,⟨aa,aa,dg aP,aa,aa,hp.2⟩,⟨by simp,by simp⟩,.refl _⟩⟩
end Go.Am.B
