/- natural.trim. -/
import Derived.Test.YtppeigelbecpbaaGreatZ2
import Derived.Test.YtppeigelbecpbaaGreatNames
set_option linter.unusedVariables false
namespace Go.Am.B
open Go Go.Am.N AV
theorem K3:aO P ov fZ (aq fZ):=aP Ro (by kernel_rfl) (by kernel_rfl) (by kernel_rfl)
theorem PO {n:Nat} {z:Nat→Nat}:aG T [] [] 30 [0,3] (before (aq fZ) [1,1,0]) ⟨aM 0 [.ag 1 n (au z)],[],0⟩=
  some (aa.leaf aj.normal ([AV.ag 1 n (au z),AV.int IntKind.i64 (n:Int)],[])):=by kernel_rfl
theorem aer {n k:Nat} {z:Nat→Nat}:aG T [] [8,15] 30 [0,3] [part (aq fZ) [1,1,0,0,0]] ⟨[(0,.ag 1 n (au z)),(3,.int .i64 k)],[],0⟩=
  some
 (aa.fork (decide ((k:Int)>0))
  (aa.af
   [decide ((k:Int)>0)=true,
    0≤IntKind.i64.wrap ((k:Int)-1)∧(IntKind.i64.wrap ((k:Int)-1)).toNat<n]
   (aa.fork (bif true then((z (IntKind.i64.wrap ((k:Int)-1)).toNat):Int)==0 else false)
    (aa.leaf aj.normal ([AV.ag 1 n (au z),AV.int IntKind.i64 (IntKind.i64.wrap ((k:Int)-1))],[]))
    (aa.leaf (aj.exit 0) ([AV.ag 1 n (au z),AV.int IntKind.i64 (k:Int)],[]))))
  (aa.af [decide ((k:Int)>0)=false]
   (aa.fork false (aa.leaf aj.normal ([AV.ag 1 n (au z),AV.int IntKind.i64 (IntKind.i64.wrap ((k:Int)-1))],[]))
    (aa.leaf (aj.exit 0) ([AV.ag 1 n (au z),AV.int IntKind.i64 (k:Int)],[]))))):=by kernel_rfl
theorem Vq {n k:Nat} {z:Nat→Nat}:bZ T [] [] 30 fZ (behind (aq fZ) [1,1,0]) ⟨[(0,.ag 1 n (au z)),(3,.int .i64 k)],[],0⟩=
  some
 (aa.af [(0:Int)≤0∧0≤(k:Int)∧(k:Int)≤(k:Int)∧(k:Int)≤(n:Int)]
  (aa.leaf aj.ret [AV.ag 1 ((k:Int).toNat-Int.toNat 0) fun i=>au z (i+Int.toNat 0)])):=by kernel_rfl
theorem Rk {n:Nat} {z:Nat→Nat} (K:Nat) (pre:aA):az P ov K [.ag 1 n (au z)] pre ⟨.mag (val n z),[],[n<2^62,∀i,i<n→z i<2^32]⟩:=by
 refine iG hT K3 rfl (of_decide_eq_true (by kernel_rfl)) rfl (fun need c h0=>?_) K pre
 obtain⟨hn,hz⟩:n<2^62∧∀i,i<n→z i<2^32:=need
 refine ak.hole [1,1,0] (by kernel_rfl) (aC.bf hT aX hm 30 [0,3] PO (by kernel_rfl) fun s' hv=>?_)
 refine ak.gk (i:=0) (y:=part (aq fZ) [1,1,0,0,0]) (by kernel_rfl) (fun k:Nat=>⟨aB [0,3] [.ag 1 n (au z),.int .i64 k],[],0⟩) (fun k=>k≤n∧∀i,k≤i→i<n→z i=0) id n
  (cK [] hv h0 rfl ⟨⟨rfl,aH rfl⟩,⟨rfl,aH rfl⟩,trivial⟩ trivial) ⟨Nat.le_refl _,fun i h1 h2=>by omega⟩ ?_
 rintro k ⟨hk,hzk⟩
 refine ak.bf hT aX hm 30 [0,3] aer (by kernel_rfl) ?_
 have fin:(k=0∨z (k-1)≠0)→∀s',aU [0,3] s'=some ([.ag 1 n (au z),.int .i64 k],[])→aC P c fZ.ntmps (behind (aq fZ) [1,1,0]) s' (Fin T fZ (.mag (val n z))):=by
  intro hk0 s' hv
  refine aC.weak (by kernel_rfl) (cK (vs:=[.ag 1 n (au z),.int .i64 k]) (ps:=[]) (nx:=0) [] hv h0 rfl ⟨⟨rfl,aH rfl⟩,⟨rfl,aH rfl⟩,trivial⟩ trivial)
   (aC.fin hT aX hm 30 Vq (by kernel_rfl) ⟨⟨by omega,by omega,by omega,by omega⟩,?_⟩)
  have e:val n z=val k z:=kO hk hzk
  refine jL (by rw[e,An (fun i hi=>hz i (by omega)) hk0];simp) fun i hi=>?_
  have hi':i<k:=by simpa using hi
  rw[e,nI (fun j hj=>hz j (by omega)) hi']
  rfl
 have hw:0<k→IntKind.i64.wrap ((k:Int)-1)=((k-1:Nat):Int):=fun h=>by rw[wrap_i64 (by omega) (by omega)];omega
 refine⟨fun hb=>?_,fun hb=>?_⟩
 ·have h1:0<k:=by simpa using hb
  rw[hw h1]
  refine⟨⟨hb,by omega,by simp;omega⟩,fun hc s' hv=>?_,fun hc s' hv=>?_⟩
  ·refine⟨k-1,cK [] hv h0 rfl ⟨⟨rfl,aH rfl⟩,⟨rfl,aH rfl⟩,trivial⟩ trivial,⟨by omega,fun i h1 h2=>?_⟩,by simp;omega⟩
   by_cases hi:i=k-1
   ·subst hi;simpa using hc
   ·exact hzk i (by omega) h2
  ·exact fin (.inr (by simpa using hc)) s' hv
 ·have h1:k=0:=by simpa using hb
  refine⟨hb,fun hc=>by simp at hc,fun hc s' hv=>fin (.inl h1) s' hv⟩
def NQ (N n:Nat):cJ:=aF (.mag N) [n<2^62]
def G1:aS:=[(ov,bA (jA NQ))]
theorem fu:aW P G1:=aD (bS (qx fun z n K hz need=>fun _=>Rk K [] ⟨need,hz⟩)) aX
end Go.Am.B
