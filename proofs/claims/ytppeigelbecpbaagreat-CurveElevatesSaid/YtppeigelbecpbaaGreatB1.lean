/- natural. -/
import Derived.Test.YtppeigelbecpbaaGreatZ2
import Derived.Test.YtppeigelbecpbaaGreatNames
set_option linter.unusedVariables false
namespace Go.Am.B
open Go Go.Am.N AV
theorem Md:aT P wM iR (aA iR):=aY Proofs.Tryz.func219 ag ag ag
theorem UN {n:Nat} {z:Nat->Nat}:aH T [] [] 30 [0,3] (before (aA iR) [1,1,0]) ⟨aQ 0 [.aq 1 n (aD z)],[],0⟩=
  some (ah.leaf au.normal ([AV.aq 1 n (aD z),AV.int IntKind.i64 (n:Int)],[])):=ag
theorem aat {n k:Nat} {z:Nat->Nat}:aH T [] [8,15] 30 [0,3] [part (aA iR) [1,1,0,0,0]] ⟨[(0,.aq 1 n (aD z)),(3,.int .i64 k)],[],0⟩=
  some
 (ah.fork (decide ((k:Int)>0))
  (ah.aj
   [decide ((k:Int)>0)=true,
    0<=IntKind.i64.wrap ((k:Int)-1)/\(IntKind.i64.wrap ((k:Int)-1)).toNat<n]
   (ah.fork (bif true then((z (IntKind.i64.wrap ((k:Int)-1)).toNat):Int)==0 else false)
    (ah.leaf au.normal ([AV.aq 1 n (aD z),AV.int IntKind.i64 (IntKind.i64.wrap ((k:Int)-1))],[]))
    (ah.leaf (au.exit 0) ([AV.aq 1 n (aD z),AV.int IntKind.i64 (k:Int)],[]))))
  (ah.aj [decide ((k:Int)>0)=false]
   (ah.fork false (ah.leaf au.normal ([AV.aq 1 n (aD z),AV.int IntKind.i64 (IntKind.i64.wrap ((k:Int)-1))],[]))
    (ah.leaf (au.exit 0) ([AV.aq 1 n (aD z),AV.int IntKind.i64 (k:Int)],[]))))):=ag
theorem abu {n k:Nat} {z:Nat->Nat}:cw T [] [] 30 iR (behind (aA iR) [1,1,0]) ⟨[(0,.aq 1 n (aD z)),(3,.int .i64 k)],[],0⟩=
  some
 (ah.aj [(0:Int)<=0/\0<=(k:Int)/\(k:Int)<=(k:Int)/\(k:Int)<=(n:Int)]
  (ah.leaf au.ret [AV.aq 1 ((k:Int).toNat-Int.toNat 0) fun i=>aD z (i+Int.toNat 0)])):=ag
theorem afo {n:Nat} {z:Nat->Nat} (K:Nat) (pre:aF):aE P wM K [.aq 1 n (aD z)] pre ⟨.mag (val n z),[],[n<2^62,∀i,i<n->z i<2^32]⟩:=by
 refine jM hT Md rfl aX rfl (fun need c h0=>?_) K pre
 obtain⟨hn,hz⟩:n<2^62/\∀i,i<n->z i<2^32:=need
 refine ax.hole [1,1,0] ag (aI.bA hT bO hm 30 [0,3] UN ag fun s' hv=>?_)
 refine ax.iw (i:=0) (y:=part (aA iR) [1,1,0,0,0]) ag (fun k:Nat=>⟨aC [0,3] [.aq 1 n (aD z),.int .i64 k],[],0⟩) (fun k=>k<=n/\∀i,k<=i->i<n->z i=0) id n
  (dB [] hv h0 rfl ⟨⟨rfl,aN rfl⟩,⟨rfl,aN rfl⟩,trivial⟩ trivial) ⟨aU,fun i h1 h2=>aa⟩ ?_
 rintro k ⟨hk,hzk⟩
 refine ax.bA hT bO hm 30 [0,3] aat ag ?_
 have fin:(k=0\/z (k-1)≠0)->∀s',bt [0,3] s'=some ([.aq 1 n (aD z),.int .i64 k],[])->aI P c iR.ntmps (behind (aA iR) [1,1,0]) s' (Fin T iR (.mag (val n z))):=by
  intro hk0 s' hv
  refine aI.weak ag (dB (vs:=[.aq 1 n (aD z),.int .i64 k]) (ps:=[]) (nx:=0) [] hv h0 rfl ⟨⟨rfl,aN rfl⟩,⟨rfl,aN rfl⟩,trivial⟩ trivial)
   (aI.fin hT bO hm 30 abu ag ⟨⟨aa,aa,aa,aa⟩,?_⟩)
  have e:val n z=val k z:=nq hk hzk
  refine lO (by rw[e,CW (fun i hi=>hz i aa) hk0];simp) fun i hi=>?_
  have hi':i<k:=by simpa using hi
  rw[e,qN (fun j hj=>hz j aa) hi']
  rfl
 have hw:0<k->IntKind.i64.wrap ((k:Int)-1)=((k-1:Nat):Int):=fun h=>by rw[wrap_i64 aa aa];omega
 refine⟨fun hb=>?_,fun hb=>?_⟩
 ·have h1:0<k:=by simpa using hb
  rw[hw h1]
  refine⟨⟨hb,aa,by simp;omega⟩,fun hc s' hv=>?_,fun hc s' hv=>?_⟩
  ·refine⟨k-1,dB [] hv h0 rfl ⟨⟨rfl,aN rfl⟩,⟨rfl,aN rfl⟩,trivial⟩ trivial,⟨aa,fun i h1 h2=>?_⟩,by simp;omega⟩
   by_cases hi:i=k-1
   ·subst hi;simpa using hc
   ·exact hzk i aa h2
  ·exact fin (.inr (by simpa using hc)) s' hv
 ·have h1:k=0:=by simpa using hb
  refine⟨hb,fun hc=>by simp at hc,fun hc s' hv=>fin (.inl h1) s' hv⟩
def Xy (N n:Nat):dm:=aK (.mag N) [n<2^62]
def G1:bg:=[(wM,bX (mo Xy))]
theorem gA:bz P G1:=aL (cK (uR fun z n K hz need=>fun _=>afo K [] ⟨need,hz⟩)) bO
end Go.Am.B
