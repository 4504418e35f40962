/- natural.trim. -/
import Derived.Test.YtppeigelbecpbaaGreatZ2
import Derived.Test.YtppeigelbecpbaaGreatNames
set_option linter.unusedVariables false
namespace Go.Am.B
open Go Go.Am.N AV
theorem C1:aN P nX fL (au fL):=aO YC (by kernel_rfl) (by kernel_rfl) (by kernel_rfl)
theorem M4 {n:Nat} {z:Nat→Nat}:aJ T [] [] 30 [0,3] (before (au fL) [1,1,0]) ⟨aM 0 [.aq 1 n (ax z)],[],0⟩=
  some (aa.leaf ah.normal ([AV.aq 1 n (ax z),AV.int IntKind.i64 (n:Int)],[])):=by kernel_rfl
theorem Yn {n k:Nat} {z:Nat→Nat}:aJ T [] [8,15] 30 [0,3] [part (au fL) [1,1,0,0,0]] ⟨[(0,.aq 1 n (ax z)),(3,.int .i64 k)],[],0⟩=
  some
 (aa.fork (decide ((k:Int)>0))
  (aa.ag
   [decide ((k:Int)>0)=true,
    0≤IntKind.i64.wrap ((k:Int)-1)∧(IntKind.i64.wrap ((k:Int)-1)).toNat<n]
   (aa.fork (bif true then((z (IntKind.i64.wrap ((k:Int)-1)).toNat):Int)==0 else false)
    (aa.leaf ah.normal ([AV.aq 1 n (ax z),AV.int IntKind.i64 (IntKind.i64.wrap ((k:Int)-1))],[]))
    (aa.leaf (ah.exit 0) ([AV.aq 1 n (ax z),AV.int IntKind.i64 (k:Int)],[]))))
  (aa.ag [decide ((k:Int)>0)=false]
   (aa.fork false (aa.leaf ah.normal ([AV.aq 1 n (ax z),AV.int IntKind.i64 (IntKind.i64.wrap ((k:Int)-1))],[]))
    (aa.leaf (ah.exit 0) ([AV.aq 1 n (ax z),AV.int IntKind.i64 (k:Int)],[]))))):=by kernel_rfl
theorem IP {n k:Nat} {z:Nat→Nat}:b7 T [] [] 30 fL (behind (au fL) [1,1,0]) ⟨[(0,.aq 1 n (ax z)),(3,.int .i64 k)],[],0⟩=
  some
 (aa.ag [(0:Int)≤0∧0≤(k:Int)∧(k:Int)≤(k:Int)∧(k:Int)≤(n:Int)]
  (aa.leaf ah.ret [AV.aq 1 ((k:Int).toNat-Int.toNat 0) fun i=>ax z (i+Int.toNat 0)])):=by kernel_rfl
theorem SN {n:Nat} {z:Nat→Nat} (K:Nat) (pre:aA):aB P nX K [.aq 1 n (ax z)] pre ⟨.mag (val n z),[],[n<2^62,∀i,i<n→z i<2^32]⟩:=by
 refine gH hT C1 rfl (of_decide_eq_true (by kernel_rfl)) rfl (fun need c h0=>?_) K pre
 obtain⟨hn,hz⟩:n<2^62∧∀i,i<n→z i<2^32:=need
 refine aj.hole [1,1,0] (by kernel_rfl) (aC.aV hT br hm 30 [0,3] M4 (by kernel_rfl) fun s' hv=>?_)
 refine aj.fU (i:=0) (y:=part (au fL) [1,1,0,0,0]) (by kernel_rfl) (fun k:Nat=>⟨aD [0,3] [.aq 1 n (ax z),.int .i64 k],[],0⟩) (fun k=>k≤n∧∀i,k≤i→i<n→z i=0) id n
  (cu [] hv h0 rfl ⟨⟨rfl,aF rfl⟩,⟨rfl,aF rfl⟩,trivial⟩ trivial) ⟨Nat.le_refl _,fun i h1 h2=>by omega⟩ ?_
 rintro k ⟨hk,hzk⟩
 refine aj.aV hT br hm 30 [0,3] Yn (by kernel_rfl) ?_
 have fin:(k=0∨z (k-1)≠0)→∀s',aR [0,3] s'=some ([.aq 1 n (ax z),.int .i64 k],[])→aC P c fL.ntmps (behind (au fL) [1,1,0]) s' (Fin T fL (.mag (val n z))):=by
  intro hk0 s' hv
  refine aC.weak (by kernel_rfl) (cu (vs:=[.aq 1 n (ax z),.int .i64 k]) (ps:=[]) (nx:=0) [] hv h0 rfl ⟨⟨rfl,aF rfl⟩,⟨rfl,aF rfl⟩,trivial⟩ trivial)
   (aC.fin hT br hm 30 IP (by kernel_rfl) ⟨⟨by omega,by omega,by omega,by omega⟩,?_⟩)
  have e:val n z=val k z:=jC hk hzk
  refine iQ (by rw[e,yt (fun i hi=>hz i (by omega)) hk0];simp) fun i hi=>?_
  have hi':i<k:=by simpa using hi
  rw[e,l8 (fun j hj=>hz j (by omega)) hi']
  rfl
 have hw:0<k→IntKind.i64.wrap ((k:Int)-1)=((k-1:Nat):Int):=fun h=>by rw[wrap_i64 (by omega) (by omega)];omega
 refine⟨fun hb=>?_,fun hb=>?_⟩
 ·have h1:0<k:=by simpa using hb
  rw[hw h1]
  refine⟨⟨hb,by omega,by simp;omega⟩,fun hc s' hv=>?_,fun hc s' hv=>?_⟩
  ·refine⟨k-1,cu [] hv h0 rfl ⟨⟨rfl,aF rfl⟩,⟨rfl,aF rfl⟩,trivial⟩ trivial,⟨by omega,fun i h1 h2=>?_⟩,by simp;omega⟩
   by_cases hi:i=k-1
   ·subst hi;simpa using hc
   ·exact hzk i (by omega) h2
  ·exact fin (.inr (by simpa using hc)) s' hv
 ·have h1:k=0:=by simpa using hb
  refine⟨hb,fun hc=>by simp at hc,fun hc s' hv=>fin (.inl h1) s' hv⟩
def TE (N n:Nat):cr:=aG (.mag N) [n<2^62]
def G1:aT:=[(nX,bq (jb TE))]
theorem eR:bp P G1:=aK (bL (oB fun z n K hz need=>fun _=>SN K [] ⟨need,hz⟩)) br
end Go.Am.B
