/- brepkernellaw06.RootsComplete: what the evaluator says of its parts; facts of each root. -/
import Derived.Test.YtolopdkjjlfgjaaGreatM33
import Derived.Test.YtolopdkjjlfgjaaGreatM32
import Derived.Test.YtolopdkjjlfgjaaGreatY45
set_option linter.unusedVariables false
namespace Go.Am.B
open Go Go.Am.N AV af ak IntKind Proofs.Tryz
theorem Q9:bu 5 f5:=bz func5
def Zg:Spec:=fu (kC (kL ah) kN) (fun a=>.tuple [aX (fh a.1),.int .i64 (zE (aJ a.1).1)]) fun a=>[mF a.1,zj a.1]
noncomputable def wP:bB:=nG::(11,KQ)::(12,Mz)::(14,HF)::(13,mw DU)::(18,CL aP)::(21,HD)::(22,Zg)::(16,DZ)::(25,ME)::nr
noncomputable abbrev uX:Code:=aG f5
abbrev rX:List Nat:=[2,3,4,6,8,10,11]
abbrev mW (p q:PP) (l:List (Rat×Rat)) (g:Nat->Nat) (n s:Int) (i:Nat):List AV:=[.bool false,aX p,.aq 7 l.length (uJ l g),aX q,.int .i64 n,.int .i64 s,.int .i64 i]
theorem V4 {n:Nat} {z:Nat->Int}:aH T wP [18,29,100032,100036,100041,200058,200062,200066] 60 rX (before uX [1,1,1,1,1,1,1,1,1,0,1]) ⟨aV 0 [.aq 1 n fun i=>.int .i64 (z i)],[],0⟩=
  let c9:Rat:=(↑(1:Int):Rat);let c7:AV:=tuple [];let c1:PP:=l6 n (fun i=>int i64 (z i)) (0:Int);let c6:AV:=aq 3 c1.fst fun i=>rat (c1.snd i) ah;let c5:Prop:=dU (fun i=>rat (c1.snd i) ah) c1.fst ah;let c3:Nat:=bY (gA c1.fst fun i=>aW (rat (c1.snd i) ah)) c1.fst;let c2:Nat×(Nat->Rat):=(c1.fst,fun i=>aW (rat (c1.snd i) ah));let c8:Int:=if c3=0 then(3:Int)else(0:Int);let c4:AV:=aq 7 (bf aP c2).length fun j=>agg [agg [rat (aU (bf aP c2) j).fst ah,rat (aU (bf aP c2) j).snd ah],int i64 (↑(fG aP c2 j):Int)];some (fork (!decide ((↑n:Int)<=500)) (leaf ret ([AV.bool true,c7,c7,c7,c7,c7,c7],[])) (aj [dB n (fun i=>int i64 (z i)) (0:Int),zo n (fun i=>int i64 (z i)) (0:Int)] (aj [c5,u5 aP c2] (fork (c8 !=(0:Int)) (aj [(c8==3)=true,c5,c1.fst<2^40,(bif true then ve c2 else false)=true,(bif true then(↑(bf aP c2).length:Int)==0 else false)=true] (leaf ret ([AV.bool true,c6,c4,c7,c7,c7,c7],[]))) (aj [c5,mF c2,zj c2] (aj [-(2:Int)^63<=(1:Int),(1:Int)<2^63,c5,(1:Nat)<=ah,Max.max 1 (bP (Int.natAbs (1:Int)))<=ah,xd c2 0 c9] (aj [(zE c3 !=(0:Int))=false,(bif false then true else lH c2 0 c9 !=(0:Int))=false] (aj [(bif false then true else(↑(fh c2).fst:Int)==0)=false] (leaf normal ([AV.bool false,c6,c4,aq 3 (fh c2).fst fun i=>rat ((fh c2).snd i) ah,int i64 (kQ c2 0 c9),int i64 0,int i64 0],[])))))))))):=ag
theorem Lz {p q:PP} {l:List (Rat×Rat)} {g:Nat->Nat} {n s:Int} {i:Nat}:aH T wP [70,94,200098,101,200108,111,200125,200132,134,139,145] 60 rX [part uX [1,1,1,1,1,1,1,1,1,0,1,0,0]] ⟨aE rX (mW p q l g n s i),[],0⟩=
  let c29:Prop:=false=false;let c27:Prop:=dU (fun i=>rat (q.snd i) ah) q.fst ah;let c22:Nat×(Nat->Rat):=(q.fst,fun i=>aW (rat (q.snd i) ah));let c20:AV:=aq 3 p.fst fun i=>rat (p.snd i) ah;let c19:AV:=aq 3 q.fst fun i=>rat (q.snd i) ah;let c16:Prop:=0<1;let c15:Prop:=(bif false then true else false)=false;let c14:Prop:=ah<2^41;let c12:AV:=aq 7 l.length fun j=>agg [agg [rat (aU l j).fst ah,rat (aU l j).snd ah],int i64 (↑(g j):Int)];let c10:Int:=(↑i:Int);let c9:Int:=(2:Int)^63;let c24:Int:=c10+1;let c23:Int:=c10-1;let c21:Bool:=decide (c10>0);let c18:Int:=(↑(g c10.toNat):Int);let c17:Prop:=(0:Int)<=c10/\c10.toNat<l.length;let c2:Rat×Rat:=aU l c10.toNat;let c36:Rat:=c2.fst;let c35:List AV:=[int i64 (s+c18),int i64 c24];let c34:List Prop:=[c17,-c9<=s+c18/\s+c18<c9];let c8:List Prop:=[c21=false,c15,c17];let c28:Int:=iw (aU l c23.toNat).snd c36;let c26:Bool:=bC c36==0;let c11:Prop:=(bif true then bC (er c22 c36)!=0 else false)=false;let c7:Bool:=decide (c36=c2.snd);let c6:Int:=bC (er c22 c36)*bC (er c22 c2.snd);let c4:af (List AV×aD):=aj c34 (aj [-c9<=c24/\c24<c9] (leaf normal (AV.bool false::c20::c12::c19::int i64 n::c35,[])));let c3:af (List AV×aD):=aj [-c9<=n+1/\n+1<c9] (aj c34 (aj [-c9<=c24/\c24<c9] (leaf normal (AV.bool false::c20::c12::c19::int i64 (n+1)::c35,[]))));let c33:Prop:=(!c7)=true;let c32:Prop:=c7=false;let c31:Prop:=c7=true;let c30:Prop:=(!c7)=false;let c25:Prop:=-c9<=c6/\c6<c9;let c13:Prop:=(bif false then true else bif true then c6==1 else false)=false;let c5:List Prop:=[c21=true,-c9<=c23/\c23<c9,(0:Int)<=c23/\c23.toNat<l.length,c16,c14,c14,(bif false then true else bif true then decide (c28>0)else false)=false,c17];let c1:af (List AV×aD):=aj [(bif false then true else decide (c18<1))=false] (fork c7 (fork c26 (aj [c31,c16,c14,c26=true] (fork true c3 c4)) (aj [c31,c16,c14,c26=false,c16,-c9<=1,(1:Int)<c9,c14,Max.max 1 (bP (Int.natAbs (1:Int)))<2^41] (fork (bif true then bif false then true else decide (c36=(↑(1:Int):Rat))else false) c3 c4))) (aj [c32] (fork false c3 c4)));some (fork (decide (c10<(↑l.length:Int))) (aj [c17,c16] (aj [c16,c27,ah<=ah,(1:Nat)<=q.fst,q.fst<=41,yE (q.fst-1) (fun i=>aW (rat (q.snd i) ah)) c36,c14,c16,c27,ah<=ah,(1:Nat)<=q.fst,q.fst<=41,yE (q.fst-1) (fun i=>aW (rat (q.snd i) ah)) c2.snd,c14] (aj [c16,c16,c14,c14] (fork c7 (fork (!c7) (fork c21 (aj (c31::c11::c33::c25::c13::c5) c1) (aj (c31::c11::c33::c25::c13::c8) c1)) (fork c21 (aj (c31::c11::c30::c15::c5) c1) (aj (c31::c11::c30::c15::c8) c1))) (fork (!c7) (fork c21 (aj (c32::c29::c33::c25::c13::c5) c1) (aj (c32::c29::c33::c25::c13::c8) c1)) (fork c21 (aj (c32::c29::c30::c15::c5) c1) (aj (c32::c29::c30::c15::c8) c1))))))) (leaf (exit 0) ([AV.bool false,c20,c12,c19,int i64 n,int i64 s,int i64 c10],[]))):=ag
theorem Zu {p q:PP} {l:List (Rat×Rat)} {g:Nat->Nat} {n s:Int} {i:Nat}:dA T wP [100159,100166] 60 f5 [part uX [1,1,1,1,1,1,1,1,1,1]] ⟨aE rX (mW p q l g n s i),[],0⟩=
  let c1:Int:=(↑p.fst:Int)-1;some (aj [((↑l.length:Int)==n)=true,-(2:Int)^63<=c1/\c1<2^63,(bif true then decide (s<=c1)else false)=true] (leaf ret [AV.bool true])):=ag
theorem T4:bT P wP:=jM (aN acd (aN Py (aN RB (aN Yp (aN (Hw aP) (aN TD (aN (fF fun⟨_,_⟩ K hn=>ZM hn.1 hn.2 K) (aN Kp (aN SV o4)))))))))
theorem Fx {m s τ:Nat} {D T:Int} {p:Nat->Rat} {t:Rat} (h:∀i,i<=m->bS D s (p i)) (ht:bS T τ t) (hT:T.natAbs<=2^τ):∀k i,k+i<=m->bS (D*T^k) (s+k*(τ+2)) (fM p t k i)
 |0,i,hi=>by rw[Int.pow_zero,Int.mul_one,Nat.zero_mul,Nat.add_zero];exact h i aa
 |k+1,i,hi=>by
  have h1:=Fx h ht hT k i aa
  have h2:=Fx h ht hT k (i+1) aa
  have h3:=h2.add (h1.vg (n:=-1) (e:=0) (by decide)|>.more (show 0+(s+k*(τ+2))<=s+k*(τ+2) by omega))
  have h4:=h3.mul ht
  have h5:=h1.up hT
  have h6:=(h5.more (show s+k*(τ+2)+τ<=s+k*(τ+2)+1+τ by omega)).add h4
  rw[Int.pow_succ,<-Int.mul_assoc,show s+(k+1)*(τ+2)=s+k*(τ+2)+1+τ+1 by rw[Nat.add_mul];omega]
  show bS _ _ (fM p t k i+(fM p t k (i+1)-fM p t k i)*t)
  rw[show fM p t k (i+1)-fM p t k i=fM p t k (i+1)+((-1:Int):Rat)*fM p t k i by rw[show((-1:Int):Rat)=-1 from rfl];grind]
  exact h6
theorem Dy.sp {q:PP} (h1:1<=q.1) (h2:q.1<=7) (hb:Bd q 900) {z:Rat} (hz:Dy z):yE (q.1-1) q.2 z:=fun k i hi=>by
 obtain⟨j,j1,j2⟩:=hz
 obtain⟨D,d1,d2,d3⟩:=hb
 have hD:=oR
 have hW:=dI
 have hT:(((2^j:Nat):Int)).natAbs<=2^j:=by rw[Int.natAbs_natCast];exact Nat.le_refl _
 have hT0:((2^j:Nat):Int)≠0:=by have:=Nat.pow_pos (n:=j) (show 0<2 by decide);omega
 have h3:=Fx (m:=q.1-1) (fun i hi=>d3 i aa) j2 hT k i hi
 have k1:k*(j+2)<=6*(j+2):=Nat.mul_le_mul_right _ aa
 have k2:k*j<=6*(j+2):=Nat.mul_le_mul aa aa
 exact((h3.more (show 900+k*(j+2)<=900+6*(j+2) by omega)).sz (Int.mul_ne_zero d1 (Int.pow_ne_zero hT0)) (Nat.le_trans (lz d2 (uA hT k)) (Nat.pow_le_pow_right (by decide) (show 900+k*j<=900+6*(j+2) by omega)))).more aa
structure NA (p:PP) (i:Nat):Prop where
 dx:Dy (aU (bf aP p) i).1
 dy:Dy (aU (bf aP p) i).2
 pt:(aU (bf aP p) i).1=(aU (bf aP p) i).2->bC (er (fh p) (aU (bf aP p) i).1)=0
 sg:(aU (bf aP p) i).1≠(aU (bf aP p) i).2->bC (er (fh p) (aU (bf aP p) i).1)*bC (er (fh p) (aU (bf aP p) i).2)≠1
 od:0<i->¬iw (aU (bf aP p) (i-1)).2 (aU (bf aP p) i).1>0
theorem ZA {p:PP} (hc:dL (aJ p)) {i:Nat} (hi:i<(bf aP p).length):NA p i:=by
 have h0:(aJ p).1≠0:=by have:=hc.p0;omega
 have e:bf aP p=gT aP (bU (aJ p)) (bN (aJ p)):=if_neg h0
 have eq:fh p=sk (aZ (aJ p)):=if_neg h0
 have hm:=B7 hi
 rw[e]at hm
 obtain⟨a,b⟩:=G7 hm
 have hh:=Mc hc hm
 have ev:∀z,er (fh p) z=aC (aZ (aJ p)) z:=fun z=>by rw[eq,aep]
 rw[<-e]at a b hh
 refine⟨a,b,fun h=>?_,fun h=>?_,fun h=>?_⟩
 ·have h2:=hh.2
  rw[ev]
  unfold lC at h2
  rw[if_pos h]at h2
  have h3:=(wz hc).2 (of_decide_eq_true h2)
  rw[show dm (bN (aJ p) 0) _=aC (aZ (aJ p)) (aU (bf aP p) i).1 from oL]at h3
  rw[h3];rfl
 ·rw[ev,ev]
  rw[<-e]at hm
  have hm2:=hm
  rw[e]at hm2
  obtain⟨u,v⟩:=T0 (by rw[<-e];exact hm) h
  rw[uO]at v
  intro hs
  have nz:∀{r:Rat},bC r≠0->r≠0:=fun hr h0=>hr (by rw[h0];rfl)
  have hx:aC (aZ (aJ p)) (aU (bf aP p) i).1≠0:=nz fun h0=>by rw[h0,Int.zero_mul]at hs;cases hs
  have hy:aC (aZ (aJ p)) (aU (bf aP p) i).2≠0:=nz fun h0=>by rw[h0,Int.mul_zero]at hs;cases hs
  refine hc.nU.Zd u v hx hy ?_
  rcases(show 0<aC (aZ (aJ p)) (aU (bf aP p) i).1\/aC (aZ (aJ p)) (aU (bf aP p) i).1<0 by grind)with p1|p1<;>rcases(show 0<aC (aZ (aJ p)) (aU (bf aP p) i).2\/aC (aZ (aJ p)) (aU (bf aP p) i).2<0 by grind)with p2|p2
  ·exact .inl ⟨p1,p2⟩
  ·rw[fO p1,fQ p2]at hs;cases hs
  ·rw[fQ p1,fO p2]at hs;cases hs
  ·exact .inr ⟨p1,p2⟩
 ·intro hgt
  have:=(QG (c:=aJ p)).next (i-1) (by rw[<-e];omega)
  rw[<-e,show i-1+1=i by omega]at this
  unfold iw at hgt
  rw[if_neg (by grind)]at hgt
  split at hgt<;>first|grind|cases hgt
theorem H6 {a:PP} {l:List (Rat×Rat)} {i:Nat}:∀j,1<=hH a l j i
 |0=>aS
 |j+1=>by
  have:=H6 (a:=a) (l:=l) (i:=i) j
  unfold hH
  split<;>omega
end Go.Am.B
