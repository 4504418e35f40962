/- natural.trim. -/
import Derived.Test.YtppeigelbecpbaaGreatZ2
import Derived.Test.YtppeigelbecpbaaGreatNames
set_option linter.unusedVariables false
namespace Go.Am.B
open Go Go.Am.N AV
theorem Qz:aP P rG gG (au gG):=aQ Vy (by kernel_rfl) (by kernel_rfl) (by kernel_rfl)
theorem abo {n:Nat} {z:Nat→Nat}:aJ T [] [] 30 [0,3] (before (au gG) [1,1,0]) ⟨aN 0 [.aj 1 n (ay z)],[],0⟩=
  some (aa.leaf ak.normal ([AV.aj 1 n (ay z),AV.int IntKind.i64 (n:Int)],[])):=by kernel_rfl
theorem SI {n k:Nat} {z:Nat→Nat}:aJ T [] [8,15] 30 [0,3] [part (au gG) [1,1,0,0,0]] ⟨[(0,.aj 1 n (ay z)),(3,.int .i64 k)],[],0⟩=
  some
 (aa.fork (decide ((k:Int)>0))
  (aa.ag
   [decide ((k:Int)>0)=true,
    0≤IntKind.i64.wrap ((k:Int)-1)∧(IntKind.i64.wrap ((k:Int)-1)).toNat<n]
   (aa.fork (bif true then((z (IntKind.i64.wrap ((k:Int)-1)).toNat):Int)==0 else false)
    (aa.leaf ak.normal ([AV.aj 1 n (ay z),AV.int IntKind.i64 (IntKind.i64.wrap ((k:Int)-1))],[]))
    (aa.leaf (ak.exit 0) ([AV.aj 1 n (ay z),AV.int IntKind.i64 (k:Int)],[]))))
  (aa.ag [decide ((k:Int)>0)=false]
   (aa.fork false (aa.leaf ak.normal ([AV.aj 1 n (ay z),AV.int IntKind.i64 (IntKind.i64.wrap ((k:Int)-1))],[]))
    (aa.leaf (ak.exit 0) ([AV.aj 1 n (ay z),AV.int IntKind.i64 (k:Int)],[]))))):=by kernel_rfl
theorem VQ {n k:Nat} {z:Nat→Nat}:bY T [] [] 30 gG (behind (au gG) [1,1,0]) ⟨[(0,.aj 1 n (ay z)),(3,.int .i64 k)],[],0⟩=
  some
 (aa.ag [(0:Int)≤0∧0≤(k:Int)∧(k:Int)≤(k:Int)∧(k:Int)≤(n:Int)]
  (aa.leaf ak.ret [AV.aj 1 ((k:Int).toNat-Int.toNat 0) fun i=>ay z (i+Int.toNat 0)])):=by kernel_rfl
theorem VR {n:Nat} {z:Nat→Nat} (K:Nat) (pre:aC):aA P rG K [.aj 1 n (ay z)] pre ⟨.mag (val n z),[],[n<2^62,∀i,i<n→z i<2^32]⟩:=by
 refine ja hT Qz rfl (of_decide_eq_true (by kernel_rfl)) rfl (fun need c h0=>?_) K pre
 obtain⟨hn,hz⟩:n<2^62∧∀i,i<n→z i<2^32:=need
 refine aq.hole [1,1,0] (by kernel_rfl) (aD.bk hT bp hm 30 [0,3] abo (by kernel_rfl) fun s' hv=>?_)
 refine aq.gQ (i:=0) (y:=part (au gG) [1,1,0,0,0]) (by kernel_rfl) (fun k:Nat=>⟨aB [0,3] [.aj 1 n (ay z),.int .i64 k],[],0⟩) (fun k=>k≤n∧∀i,k≤i→i<n→z i=0) id n
  (cW [] hv h0 rfl ⟨⟨rfl,aK rfl⟩,⟨rfl,aK rfl⟩,trivial⟩ trivial) ⟨Nat.le_refl _,fun i h1 h2=>by omega⟩ ?_
 rintro k ⟨hk,hzk⟩
 refine aq.bk hT bp hm 30 [0,3] SI (by kernel_rfl) ?_
 have fin:(k=0∨z (k-1)≠0)→∀s',aY [0,3] s'=some ([.aj 1 n (ay z),.int .i64 k],[])→aD P c gG.ntmps (behind (au gG) [1,1,0]) s' (Fin T gG (.mag (val n z))):=by
  intro hk0 s' hv
  refine aD.weak (by kernel_rfl) (cW (vs:=[.aj 1 n (ay z),.int .i64 k]) (ps:=[]) (nx:=0) [] hv h0 rfl ⟨⟨rfl,aK rfl⟩,⟨rfl,aK rfl⟩,trivial⟩ trivial)
   (aD.fin hT bp hm 30 VQ (by kernel_rfl) ⟨⟨by omega,by omega,by omega,by omega⟩,?_⟩)
  have e:val n z=val k z:=lY hk hzk
  refine kG (by rw[e,Cz (fun i hi=>hz i (by omega)) hk0];simp) fun i hi=>?_
  have hi':i<k:=by simpa using hi
  rw[e,pE (fun j hj=>hz j (by omega)) hi']
  rfl
 have hw:0<k→IntKind.i64.wrap ((k:Int)-1)=((k-1:Nat):Int):=fun h=>by rw[wrap_i64 (by omega) (by omega)];omega
 refine⟨fun hb=>?_,fun hb=>?_⟩
 ·have h1:0<k:=by simpa using hb
  rw[hw h1]
  refine⟨⟨hb,by omega,by simp;omega⟩,fun hc s' hv=>?_,fun hc s' hv=>?_⟩
  ·refine⟨k-1,cW [] hv h0 rfl ⟨⟨rfl,aK rfl⟩,⟨rfl,aK rfl⟩,trivial⟩ trivial,⟨by omega,fun i h1 h2=>?_⟩,by simp;omega⟩
   by_cases hi:i=k-1
   ·subst hi;simpa using hc
   ·exact hzk i (by omega) h2
  ·exact fin (.inr (by simpa using hc)) s' hv
 ·have h1:k=0:=by simpa using hb
  refine⟨hb,fun hc=>by simp at hc,fun hc s' hv=>fin (.inl h1) s' hv⟩
def YC (N n:Nat):cU:=aG (.mag N) [n<2^62]
def G1:aS:=[(rG,bE (kQ YC))]
theorem fN:aW P G1:=aH (bX (tA fun z n K hz need=>fun _=>VR K [] ⟨need,hz⟩)) bp
end Go.Am.B
