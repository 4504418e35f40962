/- natural.trim. -/
import Derived.Test.YtolopdkjjlfgjaaGreatZ2
import Derived.Test.YtolopdkjjlfgjaaGreatNames
set_option linter.unusedVariables false
namespace Go.Am.B
open Go Go.Am.N AV Proofs.Tryz IntKind
theorem LC:bu 160 f160:=bz func160
theorem XJ {n:Nat} {z:Nat->Nat}:aH T [] [] 30 [0,3] (before (aG f160) [1,1,0]) ⟨aV 0 [.aq 1 n (az z)],[],0⟩=
  some (af.leaf ak.normal ([AV.aq 1 n (az z),AV.int .i64 (n:Int)],[])):=ag
theorem V9 {n k:Nat} {z:Nat->Nat}:aH T [] [8,15] 30 [0,3] [part (aG f160) [1,1,0,0,0]] ⟨[(0,.aq 1 n (az z)),(3,.int .i64 k)],[],0⟩=
  some
 (af.fork (decide ((k:Int)>0))
  (af.aj
   [decide ((k:Int)>0)=true,
    0<=i64.wrap ((k:Int)-1)/\(i64.wrap ((k:Int)-1)).toNat<n]
   (af.fork (bif true then((z (i64.wrap ((k:Int)-1)).toNat):Int)==0 else false)
    (af.leaf ak.normal ([AV.aq 1 n (az z),AV.int .i64 (i64.wrap ((k:Int)-1))],[]))
    (af.leaf (ak.exit 0) ([AV.aq 1 n (az z),AV.int .i64 (k:Int)],[]))))
  (af.aj [decide ((k:Int)>0)=false]
   (af.fork false (af.leaf ak.normal ([AV.aq 1 n (az z),AV.int .i64 (i64.wrap ((k:Int)-1))],[]))
    (af.leaf (ak.exit 0) ([AV.aq 1 n (az z),AV.int .i64 (k:Int)],[]))))):=ag
theorem ZX {n k:Nat} {z:Nat->Nat}:dA T [] [] 30 f160 (behind (aG f160) [1,1,0]) ⟨[(0,.aq 1 n (az z)),(3,.int .i64 k)],[],0⟩=
  some
 (af.aj [(0:Int)<=0/\0<=(k:Int)/\(k:Int)<=(k:Int)/\(k:Int)<=(n:Int)]
  (af.leaf ak.ret [AV.aq 1 ((k:Int).toNat-Int.toNat 0) fun i=>az z (i+Int.toNat 0)])):=ag
theorem O3 {n:Nat} {z:Nat->Nat} (K:Nat) (pre:aD):aQ P 160 K [.aq 1 n (az z)] pre ⟨.mag (val n z),[],[n<2^62,∀i,i<n->z i<2^32]⟩:=by
 refine kr hT LC rfl bp rfl (fun need c h0=>?_) K pre
 obtain⟨hn,hz⟩:n<2^62/\∀i,i<n->z i<2^32:=need
 refine au.hole [1,1,0] ag (aF.bJ hT ct hm 30 [0,3] XJ ag fun s' hv=>?_)
 refine au.jh (i:=0) (y:=part (aG f160) [1,1,0,0,0]) ag (fun k:Nat=>⟨aE [0,3] [.aq 1 n (az z),.int .i64 k],[],0⟩) (fun k=>k<=n/\∀i,k<=i->i<n->z i=0) id n
  (dZ [] hv h0 rfl ⟨aO,aO,trivial⟩ trivial) ⟨aS,fun i h1 h2=>aa⟩ ?_
 rintro k ⟨hk,hzk⟩
 refine au.bJ hT ct hm 30 [0,3] V9 ag ?_
 have fin:(k=0\/z (k-1)≠0)->∀s',bh [0,3] s'=some ([.aq 1 n (az z),.int .i64 k],[])->aF P c f160.ntmps (behind (aG f160) [1,1,0]) s' (Fin T f160 (.mag (val n z))):=by
  intro hk0 s' hv
  refine aF.weak ag (dZ (vs:=[.aq 1 n (az z),.int .i64 k]) (ps:=[]) (nx:=0) [] hv h0 rfl ⟨aO,aO,trivial⟩ trivial)
   (aF.fin hT ct hm 30 ZX ag ⟨⟨aa,aa,aa,aa⟩,?_⟩)
  have e:val n z=val k z:=nC hk hzk
  refine kK (by rw[e,Bo (fun i hi=>hz i aa) hk0];simp) fun i hi=>?_
  have hi':i<k:=by simpa using hi
  rw[e,qa (fun j hj=>hz j aa) hi']
  rfl
 have hw:0<k->i64.wrap ((k:Int)-1)=((k-1:Nat):Int):=fun h=>by rw[wrap_i64 aa aa];omega
 refine⟨fun hb=>?_,fun hb=>?_⟩
 ·have h1:0<k:=by simpa using hb
  rw[hw h1]
  refine⟨⟨hb,aa,by simp;omega⟩,fun hc s' hv=>?_,fun hc s' hv=>?_⟩
  ·refine⟨k-1,dZ [] hv h0 rfl ⟨aO,aO,trivial⟩ trivial,⟨aa,fun i h1 h2=>?_⟩,by simp;omega⟩
   by_cases hi:i=k-1
   ·subst hi;simpa using hc
   ·exact hzk i aa h2
  ·exact fin (.inr (by simpa using hc)) s' hv
 ·have h1:k=0:=by simpa using hb
  refine⟨hb,fun hc=>by simp at hc,fun hc s' hv=>fin (.inl h1) s' hv⟩
def acT (N n:Nat):dP:=aM (.mag N) [n<2^62]
def G1:bB:=[(160,b7 (mT acT))]
theorem iA:bT P G1:=aN (cP (tf fun z n K hz need=>fun _=>O3 K [] ⟨need,hz⟩)) ct
end Go.Am.B
