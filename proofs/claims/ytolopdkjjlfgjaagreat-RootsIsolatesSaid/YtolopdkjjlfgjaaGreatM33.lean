/- brepkernellaw06.RootsIsolates. -/
import Derived.Test.YtolopdkjjlfgjaaGreatY40
import Derived.Test.YtolopdkjjlfgjaaGreatY42
set_option linter.unusedVariables false
namespace Go.Am.B
open Go Go.Am.N AV af aq IntKind Proofs.Tryz
theorem acw:br 4 f4:=bu func4
noncomputable def Lf:bz:=nG::(11,NL)::(12,Mb)::(14,J6)::(13,mH DW)::(18,FZ cz)::(19,OJ cz)::(20,OS)::[]
theorem ad6 {n:Nat} {z:Nat->Int}:cB T Lf [10,100028,100033] 60 f4 (aI f4) ⟨aU 0 [.ak 1 n fun i=>.int .i64 (z i)],[],0⟩=
  let c1:PP:=lD n (fun i=>int i64 (z i)) (0:Int);let c5:Prop:=cZ (fun i=>rat (c1.snd i) ag) c1.fst ag;let c3:Nat:=bH (gk c1.fst fun i=>aQ (rat (c1.snd i) ag)) c1.fst;let c2:Nat×(Nat->Rat):=(c1.fst,fun i=>aQ (rat (c1.snd i) ag));let c4:Int:=if c3=0 then(3:Int)else(0:Int);some (fork (!decide ((↑n:Int)<=500)) (leaf ret [AV.bool true]) (aj [dN n (fun i=>int i64 (z i)) (0:Int),CV n (fun i=>int i64 (z i)) (0:Int)] (aj [c5,wA cz c2] (aj [c5,Cj cz c2] (aj [(c4==c4)=true,∀(i:Nat),i<(fk cz c2).length->bg (jj (fk cz c2) (kJ cz c2) i) (AF (ri (jj (fk cz c2) (kJ cz c2) i))),∀(i:Nat),i<(fB cz c2).length->bg (jj (fB cz c2) (mL cz c2) i) (AF (ri (jj (fB cz c2) (mL cz c2) i))),(fk cz c2).length<2^40,(fB cz c2).length<2^40,(bif true then v8 (fk cz c2).length (fun i=>ri (jj (fk cz c2) (kJ cz c2) i)) (fB cz c2).length fun i=>ri (jj (fB cz c2) (mL cz c2) i)else false)=true] (leaf ret [AV.bool true])))))):=ah
theorem TW:bU P Lf:=jq (aL ae6 (aL S7 (aL agG (aL ahr (aL (N8 cz) (aL (ZB cz) (aL aeL cG)))))))
theorem Q7 {p:PP} (hg:(aJ p).1≠0->dD (aJ p)):v8 (fk cz p).length (fun i=>ri (jj (fk cz p) (kJ cz p) i)) (fB cz p).length (fun i=>ri (jj (fB cz p) (mL cz p) i))=true:=by
 have e:=Ci hg
 refine decide_eq_true ⟨by rw[e],fun i hi=>?_⟩
 show((((bO (fk cz p) i).1,(bO (fk cz p) i).2),(kJ cz p i:Int)):(Rat×Rat)×Int)=(((bO (fB cz p) i).1,(bO (fB cz p) i).2),(mL cz p i:Int))
 rw[e,ahC hg hi]
theorem RG {p:PP} (hg:(aJ p).1≠0->dD (aJ p)):(fk cz p).length<=10:=by
 by_cases h0:(aJ p).1=0
 ·rw[show fk cz p=[]from if_pos h0];exact Nat.zero_le _
 ·rw[show fk cz p=l5 cz (b7 (aJ p)) (bS (aJ p))from if_neg h0];exact HL (hg h0)
theorem adz {n:Nat} {z:Nat->Int} (K:Nat):aS P 4 K [.ak 1 n (fun i=>.int .i64 (z i))] [] (aM (.bool true) []):=by
 have hW:=cY
 refine cF (r:=aM (.bool true) []) hT TW hm acw rfl aZ rfl 60 ad6 (fun _=>?_) K []
 have hp:=Iu (n:=n) (f:=fun i=>.int .i64 (z i)) (a:=0)
 have hg:(aJ (lD n (fun i=>.int .i64 (z i)) 0)).1≠0->dD (aJ (lD n (fun i=>.int .i64 (z i)) 0)):=Yj
 generalize lD n (fun i=>.int .i64 (z i)) 0=p at*
 have l1:=RG hg
 have l2:(fB cz p).length<=10:=by rw[Ci hg];exact l1
 simp only[af.all,az,Bool.not_eq_true',bI,Bool.not_eq_false',bD]
 exact⟨fun _=>.refl _,fun h=>⟨⟨⟨fun i=>rfl,aa,aa,aa⟩,W6⟩,⟨eF,Wt hp.of hg⟩,⟨eF,aci hp.of hg⟩,⟨by simp,fun i _=>.refl _,fun i _=>.refl _,by show(fk cz p).length<_;omega,by show(fB cz p).length<_;omega,Q7 hg⟩,.refl _⟩⟩
end Go.Am.B
