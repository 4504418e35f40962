/- natural.trim. -/
import Derived.Test.YtolopdkjjlfgjaaGreatZ2
import Derived.Test.YtolopdkjjlfgjaaGreatNames
set_option linter.unusedVariables false
namespace Go.Am.B
open Go Go.Am.N AV Proofs.Tryz IntKind
theorem Oc:bC 160 f160:=bD func160
theorem Yx {n:Nat} {z:Nat->Nat}:aK T [] [] 30 [0,3] (before (aJ f160) [1,1,0]) ⟨bf 0 [.az 1 n (aD z)],[],0⟩=
  some (af.leaf au.normal ([AV.az 1 n (aD z),AV.int .i64 (n:Int)],[])):=ah
theorem Ri {n k:Nat} {z:Nat->Nat}:aK T [] [8,15] 30 [0,3] [part (aJ f160) [1,1,0,0,0]] ⟨[(0,.az 1 n (aD z)),(3,.int .i64 k)],[],0⟩=
  some
 (af.fork (decide ((k:Int)>0))
  (af.aj
   [decide ((k:Int)>0)=true,
    0<=i64.wrap ((k:Int)-1)/\(i64.wrap ((k:Int)-1)).toNat<n]
   (af.fork (bif true then((z (i64.wrap ((k:Int)-1)).toNat):Int)==0 else false)
    (af.leaf au.normal ([AV.az 1 n (aD z),AV.int .i64 (i64.wrap ((k:Int)-1))],[]))
    (af.leaf (au.exit 0) ([AV.az 1 n (aD z),AV.int .i64 (k:Int)],[]))))
  (af.aj [decide ((k:Int)>0)=false]
   (af.fork false (af.leaf au.normal ([AV.az 1 n (aD z),AV.int .i64 (i64.wrap ((k:Int)-1))],[]))
    (af.leaf (au.exit 0) ([AV.az 1 n (aD z),AV.int .i64 (k:Int)],[]))))):=ah
theorem Ys {n k:Nat} {z:Nat->Nat}:dJ T [] [] 30 f160 (behind (aJ f160) [1,1,0]) ⟨[(0,.az 1 n (aD z)),(3,.int .i64 k)],[],0⟩=
  some
 (af.aj [(0:Int)<=0/\0<=(k:Int)/\(k:Int)<=(k:Int)/\(k:Int)<=(n:Int)]
  (af.leaf au.ret [AV.az 1 ((k:Int).toNat-Int.toNat 0) fun i=>aD z (i+Int.toNat 0)])):=ah
theorem WX {n:Nat} {z:Nat->Nat} (K:Nat) (pre:aG):aY P 160 K [.az 1 n (aD z)] pre ⟨.mag (val n z),[],[n<2^62,∀i,i<n->z i<2^32]⟩:=by
 refine lO hT Oc rfl br rfl (fun need c h0=>?_) K pre
 obtain⟨hn,hz⟩:n<2^62/\∀i,i<n->z i<2^32:=need
 refine aA.hole [1,1,0] ah (aI.bM hT cK hm 30 [0,3] Yx ah fun s' hv=>?_)
 refine aA.jG (i:=0) (y:=part (aJ f160) [1,1,0,0,0]) ah (fun k:Nat=>⟨aH [0,3] [.az 1 n (aD z),.int .i64 k],[],0⟩) (fun k=>k<=n/\∀i,k<=i->i<n->z i=0) id n
  (eC [] hv h0 rfl ⟨aU,aU,trivial⟩ trivial) ⟨aX,fun i h1 h2=>aa⟩ ?_
 rintro k ⟨hk,hzk⟩
 refine aA.bM hT cK hm 30 [0,3] Ri ah ?_
 have fin:(k=0\/z (k-1)≠0)->∀s',bp [0,3] s'=some ([.az 1 n (aD z),.int .i64 k],[])->aI P c f160.ntmps (behind (aJ f160) [1,1,0]) s' (Fin T f160 (.mag (val n z))):=by
  intro hk0 s' hv
  refine aI.weak ah (eC (vs:=[.az 1 n (aD z),.int .i64 k]) (ps:=[]) (nx:=0) [] hv h0 rfl ⟨aU,aU,trivial⟩ trivial)
   (aI.fin hT cK hm 30 Ys ah ⟨⟨aa,aa,aa,aa⟩,?_⟩)
  have e:val n z=val k z:=oM hk hzk
  refine l8 (by rw[e,Cj (fun i hi=>hz i aa) hk0];simp) fun i hi=>?_
  have hi':i<k:=by simpa using hi
  rw[e,rG (fun j hj=>hz j aa) hi']
  rfl
 have hw:0<k->i64.wrap ((k:Int)-1)=((k-1:Nat):Int):=fun h=>by rw[wrap_i64 aa aa];omega
 refine⟨fun hb=>?_,fun hb=>?_⟩
 ·have h1:0<k:=by simpa using hb
  rw[hw h1]
  refine⟨⟨hb,aa,by simp;omega⟩,fun hc s' hv=>?_,fun hc s' hv=>?_⟩
  ·refine⟨k-1,eC [] hv h0 rfl ⟨aU,aU,trivial⟩ trivial,⟨aa,fun i h1 h2=>?_⟩,by simp;omega⟩
   by_cases hi:i=k-1
   ·subst hi;simpa using hc
   ·exact hzk i aa h2
  ·exact fin (.inr (by simpa using hc)) s' hv
 ·have h1:k=0:=by simpa using hb
  refine⟨hb,fun hc=>by simp at hc,fun hc s' hv=>fin (.inl h1) s' hv⟩
def RO (N n:Nat):en:=aT (.mag N) [n<2^62]
def G1:bG:=[(160,cw (mW RO))]
theorem iY:cm P G1:=aM (cY (uE fun z n K hz need=>fun _=>WX K [] ⟨need,hz⟩)) cK
end Go.Am.B
