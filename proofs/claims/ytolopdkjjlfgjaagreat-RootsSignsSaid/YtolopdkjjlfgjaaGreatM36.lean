/- brepkernellaw06.RootsSigns. -/
import Derived.Test.YtolopdkjjlfgjaaGreatM33
import Derived.Test.YtolopdkjjlfgjaaGreatY14
set_option linter.unusedVariables false
namespace Go.Am.B
open Go Go.Am.N AV ag au IntKind Proofs.Tryz
theorem ai5:bu 9 f9:=bC func9
noncomputable def Jw:bE:=nG::(11,Ow)::(12,Pe)::(14,N5)::(13,lH Gr)::(19,KX dY)::(43,lH EE)::(45,CW)::(49,Dd)::(50,Dd)::[]
theorem YX {n:Nat} {z:Nat->Int} {i:Int} {b:Bool}:cy T Jw [19,38,41,100066,100071] 60 f9 (aK f9) ⟨aZ 0 [.aq 1 n fun i=>.int .i64 (z i),.int .i64 i,.bool b],[],0⟩=
  let p:ag (List AV):=leaf ret [AV.bool true];let j:=0<1;let h:=mG n (fun i=>int i64 (z i)) (0:Int);let g:PP:=jd n (fun i=>int i64 (z i)) (0:Int);let k:=cL (fun i=>rat (g.snd i) af) g.fst af;let x:=mG n (fun i=>int i64 (z i)) h;let w:PP:=jd n (fun i=>int i64 (z i)) h;let a:Nat×(Nat->Rat):=(g.fst,fun i=>aN (rat (g.snd i) af));let u:=cL (fun i=>rat (w.snd i) af) w.fst af;let t:=ku n (fun i=>int i64 (z i)) x;let e:Nat×(Nat->Rat):=(w.fst,fun i=>aN (rat (w.snd i) af));let d:=(↑(fX dY a).length:Int);let s:=ku n (fun i=>int i64 (z i)) (jO n (fun i=>int i64 (z i)) x);let o:=decide (d>0);let m:=rat (fk t s) 64;let l:=rat (fl t s) 64;let C:Rat×Rat:=cw (fX dY a) (i%d).toNat;let r:=rat C.fst af;let q:=rat C.snd af;let v:Rat×Rat:=(aN m,aN l);let f:Rat×Rat:=(aN r,aN q);let B:=[j,k,bf m (rat (aN m) af),bf l (rat (aN l) af),u,uY a v e];let D:=[j,k,bf r (rat (aN r) af),bf q (rat (aN q) af),u,uY a f e];let A:ag (List AV):=aj B (aj B (aj [(iU a v e==iU a v e)=true,(bif true then gD a v==gD a v else false)=true] p));let y:ag (List AV):=aj [(0:Int)<d,d<2^62,(0:Int)<=i%d/\(i%d).toNat<(fX dY a).length,j] (aj D (aj D (aj [(iU a f e==iU a f e)=true,(bif true then gD a f==gD a f else false)=true] p)));some (fork (!decide ((↑n:Int)<=500)) p (aj [dL n (fun i=>int i64 (z i)) (0:Int),yQ n (fun i=>int i64 (z i)) (0:Int),dL n (fun i=>int i64 (z i)) h,yQ n (fun i=>int i64 (z i)) h] (aj [k,AZ dY a] (aj [dL n (fun i=>int i64 (z i)) x,j] (fork o (aj [o=true] (fork (bif true then !b else false) y A)) (aj [o=false] (fork false y A))))))):=ah
theorem aiq:bY P Jw:=gM (aM agp (aM ad5 (aM abX (aM akp (aM (aks dY) (aM abA (aM Gv (aM Uz (aM aaD cJ)))))))))
theorem aj9 {n:Nat} {f:Nat->AV} {a:Int}:-(128:Rat)<=(rP n f a).1/\(rP n f a).2<=128:=by
 have h1:=BA (n:=n) (f:=f) (a:=a)
 have h2:=BA (n:=n) (f:=f) (a:=jO n f a)
 unfold Ab at h1 h2
 refine⟨?_,?_⟩
 ·show-128<=fk _ _;unfold fk;split<;>grind
 ·show fl _ _<=128;unfold fl;split<;>grind
theorem Y2 {n:Nat} {z:Nat->Int} {i:Int} {b:Bool} (K:Nat):aW P 9 K [.aq 1 n (fun i=>.int .i64 (z i)),.int .i64 i,.bool b] [] (aO (.bool true) []):=by
 have hW:=cP
 refine cB (r:=aO (.bool true) []) hT aiq hm ai5 rfl bh rfl 60 YX (fun _=>?_) K []
 have hp:=IU (n:=n) (f:=fun i=>.int .i64 (z i)) (a:=0)
 have hq:=IU (n:=n) (f:=fun i=>.int .i64 (z i)) (a:=mG n (fun i=>.int .i64 (z i)) 0)
 have hg:(ak (jd n (fun i=>.int .i64 (z i)) 0)).1≠0->cW (ak (jd n (fun i=>.int .i64 (z i)) 0)):=LV
 have hd:(ak (jd n (fun i=>.int .i64 (z i)) (mG n (fun i=>.int .i64 (z i)) 0))).1≠0->cW (ak (jd n (fun i=>.int .i64 (z i)) (mG n (fun i=>.int .i64 (z i)) 0))):=LV
 obtain⟨x1,x2,x3⟩:=Yc (n:=n) (f:=fun i=>.int .i64 (z i)) (a:=mG n (fun i=>.int .i64 (z i)) (mG n (fun i=>.int .i64 (z i)) 0))
 obtain⟨y1,y2⟩:=aj9 (n:=n) (f:=fun i=>.int .i64 (z i)) (a:=mG n (fun i=>.int .i64 (z i)) (mG n (fun i=>.int .i64 (z i)) 0))
 have hd1:∀a,dL n (fun i=>AV.int .i64 (z i)) a->dL n (fun i=>AV.int .i64 (z i)) (mG n (fun i=>.int .i64 (z i)) a):=fun a h=>h.fI _
 have l2:(fX dY (jd n (fun i=>.int .i64 (z i)) 0)).length<=10:=by rw[Jn hg];exact acf hg
 have e1:AZ dY (jd n (fun i=>.int .i64 (z i)) 0):=aki hp.of hg
 have s0:=OE hp.of hq.of hg hd x1 x2 (Nat.zero_le _) y1 y2
 have s1:=fun i hi=>ahk hp.of hq.of hg hd (i:=i) hi
 simp only[ag.all,aC,Bool.not_eq_true',bR,Bool.not_eq_false',bI,cond_true,beq_self_eq_true]
 refine⟨fun _=>.refl _,fun h=>?_⟩
 have h0:dL n (fun i=>AV.int .i64 (z i)) 0:=⟨fun i=>rfl,aa,aa,aa⟩
 refine⟨⟨h0,JD,hd1 _ h0,JD⟩,⟨cK,e1⟩,⟨hd1 _ (hd1 _ h0),aa⟩,fun hl=>⟨hl,fun _=>?_,fun _=>?_⟩,fun hl=>⟨hl,fun h=>Bool.noConfusion h,fun _=>?_⟩⟩
 ·have hl:0<((fX dY (jd n (fun i=>.int .i64 (z i)) 0)).length:Int):=hl
  have q1:=Int.emod_nonneg i (show((fX dY (jd n (fun i=>.int .i64 (z i)) 0)).length:Int)≠0 by omega)
  have q2:=Int.emod_lt_of_pos i (show 0<((fX dY (jd n (fun i=>.int .i64 (z i)) 0)).length:Int) by omega)
  have q3:(i%((fX dY (jd n (fun i=>.int .i64 (z i)) 0)).length:Int)).toNat<(fX dY (jd n (fun i=>.int .i64 (z i)) 0)).length:=aa
  exact⟨⟨hl,by show((fX dY (jd n (fun i=>.int .i64 (z i)) 0)).length:Int)<_;omega,⟨q1,q3⟩,aa⟩,⟨aa,cK,.refl _,.refl _,cK,s1 _ q3⟩,⟨aa,cK,.refl _,.refl _,cK,s1 _ q3⟩,⟨trivial,trivial⟩,.refl _⟩
 ·exact⟨⟨aa,cK,dG rfl aa,dG rfl aa,cK,s0⟩,⟨aa,cK,dG rfl aa,dG rfl aa,cK,s0⟩,⟨trivial,trivial⟩,.refl _⟩
 ·exact⟨⟨aa,cK,dG rfl aa,dG rfl aa,cK,s0⟩,⟨aa,cK,dG rfl aa,dG rfl aa,cK,s0⟩,⟨trivial,trivial⟩,.refl _⟩
end Go.Am.B
