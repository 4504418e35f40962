/- natural.trim. -/
import Derived.Test.YtppeigelbecpbaaGreatZ2
import Derived.Test.YtppeigelbecpbaaGreatNames
set_option linter.unusedVariables false
namespace Go.Am.B
open Go Go.Am.N AV
theorem Re:aO P rD gM (au gM):=aQ RM (by kernel_rfl) (by kernel_rfl) (by kernel_rfl)
theorem TP {n:Nat} {z:Nat→Nat}:aH T [] [] 30 [0,3] (before (au gM) [1,1,0]) ⟨aN 0 [.ak 1 n (ay z)],[],0⟩=
  some (aa.leaf aj.normal ([AV.ak 1 n (ay z),AV.int IntKind.i64 (n:Int)],[])):=by kernel_rfl
theorem ajM {n k:Nat} {z:Nat→Nat}:aH T [] [8,15] 30 [0,3] [part (au gM) [1,1,0,0,0]] ⟨[(0,.ak 1 n (ay z)),(3,.int .i64 k)],[],0⟩=
  some
 (aa.fork (decide ((k:Int)>0))
  (aa.ag
   [decide ((k:Int)>0)=true,
    0≤IntKind.i64.wrap ((k:Int)-1)∧(IntKind.i64.wrap ((k:Int)-1)).toNat<n]
   (aa.fork (bif true then((z (IntKind.i64.wrap ((k:Int)-1)).toNat):Int)==0 else false)
    (aa.leaf aj.normal ([AV.ak 1 n (ay z),AV.int IntKind.i64 (IntKind.i64.wrap ((k:Int)-1))],[]))
    (aa.leaf (aj.exit 0) ([AV.ak 1 n (ay z),AV.int IntKind.i64 (k:Int)],[]))))
  (aa.ag [decide ((k:Int)>0)=false]
   (aa.fork false (aa.leaf aj.normal ([AV.ak 1 n (ay z),AV.int IntKind.i64 (IntKind.i64.wrap ((k:Int)-1))],[]))
    (aa.leaf (aj.exit 0) ([AV.ak 1 n (ay z),AV.int IntKind.i64 (k:Int)],[]))))):=by kernel_rfl
theorem Rq {n k:Nat} {z:Nat→Nat}:cm T [] [] 30 gM (behind (au gM) [1,1,0]) ⟨[(0,.ak 1 n (ay z)),(3,.int .i64 k)],[],0⟩=
  some
 (aa.ag [(0:Int)≤0∧0≤(k:Int)∧(k:Int)≤(k:Int)∧(k:Int)≤(n:Int)]
  (aa.leaf aj.ret [AV.ak 1 ((k:Int).toNat-Int.toNat 0) fun i=>ay z (i+Int.toNat 0)])):=by kernel_rfl
theorem aeC {n:Nat} {z:Nat→Nat} (K:Nat) (pre:aC):aB P rD K [.ak 1 n (ay z)] pre ⟨.mag (val n z),[],[n<2^62,∀i,i<n→z i<2^32]⟩:=by
 refine jk hT Re rfl (of_decide_eq_true (by kernel_rfl)) rfl (fun need c h0=>?_) K pre
 obtain⟨hn,hz⟩:n<2^62∧∀i,i<n→z i<2^32:=need
 refine aq.hole [1,1,0] (by kernel_rfl) (aD.bf hT bk hm 30 [0,3] TP (by kernel_rfl) fun s' hv=>?_)
 refine aq.g8 (i:=0) (y:=part (au gM) [1,1,0,0,0]) (by kernel_rfl) (fun k:Nat=>⟨aA [0,3] [.ak 1 n (ay z),.int .i64 k],[],0⟩) (fun k=>k≤n∧∀i,k≤i→i<n→z i=0) id n
  (cX [] hv h0 rfl ⟨⟨rfl,aI rfl⟩,⟨rfl,aI rfl⟩,trivial⟩ trivial) ⟨Nat.le_refl _,fun i h1 h2=>by omega⟩ ?_
 rintro k ⟨hk,hzk⟩
 refine aq.bf hT bk hm 30 [0,3] ajM (by kernel_rfl) ?_
 have fin:(k=0∨z (k-1)≠0)→∀s',aX [0,3] s'=some ([.ak 1 n (ay z),.int .i64 k],[])→aD P c gM.ntmps (behind (au gM) [1,1,0]) s' (Fin T gM (.mag (val n z))):=by
  intro hk0 s' hv
  refine aD.weak (by kernel_rfl) (cX (vs:=[.ak 1 n (ay z),.int .i64 k]) (ps:=[]) (nx:=0) [] hv h0 rfl ⟨⟨rfl,aI rfl⟩,⟨rfl,aI rfl⟩,trivial⟩ trivial)
   (aD.fin hT bk hm 30 Rq (by kernel_rfl) ⟨⟨by omega,by omega,by omega,by omega⟩,?_⟩)
  have e:val n z=val k z:=mV hk hzk
  refine kG (by rw[e,Cf (fun i hi=>hz i (by omega)) hk0];simp) fun i hi=>?_
  have hi':i<k:=by simpa using hi
  rw[e,pn (fun j hj=>hz j (by omega)) hi']
  rfl
 have hw:0<k→IntKind.i64.wrap ((k:Int)-1)=((k-1:Nat):Int):=fun h=>by rw[wrap_i64 (by omega) (by omega)];omega
 refine⟨fun hb=>?_,fun hb=>?_⟩
 ·have h1:0<k:=by simpa using hb
  rw[hw h1]
  refine⟨⟨hb,by omega,by simp;omega⟩,fun hc s' hv=>?_,fun hc s' hv=>?_⟩
  ·refine⟨k-1,cX [] hv h0 rfl ⟨⟨rfl,aI rfl⟩,⟨rfl,aI rfl⟩,trivial⟩ trivial,⟨by omega,fun i h1 h2=>?_⟩,by simp;omega⟩
   by_cases hi:i=k-1
   ·subst hi;simpa using hc
   ·exact hzk i (by omega) h2
  ·exact fin (.inr (by simpa using hc)) s' hv
 ·have h1:k=0:=by simpa using hb
  refine⟨hb,fun hc=>by simp at hc,fun hc s' hv=>fin (.inl h1) s' hv⟩
def ahe (N n:Nat):cJ:=aK (.mag N) [n<2^62]
def G1:aR:=[(rD,bC (kW ahe))]
theorem gj:aY P G1:=aG (bV (s4 fun z n K hz need=>fun _=>aeC K [] ⟨need,hz⟩)) bk
end Go.Am.B
