/- natural.trim. -/
import Derived.Test.YtnniljlepppdpaaGreatZ2
import Derived.Test.YtnniljlepppdpaaGreatNames
set_option linter.unusedVariables false
namespace Go.Am.B
open Go Go.Am.N AV
theorem QI:aR P vm je (az je):=aS Proofs.Tryz.func253 ag ag ag
theorem Vx {n:Nat} {z:Nat->Nat}:aI T [] [] 30 [0,3] (before (az je) [1,1,0]) ⟨aP 0 [.ak 1 n (aB z)],[],0⟩=
  some (ah.leaf aq.normal ([AV.ak 1 n (aB z),AV.int IntKind.i64 (n:Int)],[])):=ag
theorem ac1 {n k:Nat} {z:Nat->Nat}:aI T [] [8,15] 30 [0,3] [part (az je) [1,1,0,0,0]] ⟨[(0,.ak 1 n (aB z)),(3,.int .i64 k)],[],0⟩=
  some
 (ah.fork (decide ((k:Int)>0))
  (ah.aj
   [decide ((k:Int)>0)=true,
    0<=IntKind.i64.wrap ((k:Int)-1)/\(IntKind.i64.wrap ((k:Int)-1)).toNat<n]
   (ah.fork (bif true then((z (IntKind.i64.wrap ((k:Int)-1)).toNat):Int)==0 else false)
    (ah.leaf aq.normal ([AV.ak 1 n (aB z),AV.int IntKind.i64 (IntKind.i64.wrap ((k:Int)-1))],[]))
    (ah.leaf (aq.exit 0) ([AV.ak 1 n (aB z),AV.int IntKind.i64 (k:Int)],[]))))
  (ah.aj [decide ((k:Int)>0)=false]
   (ah.fork false (ah.leaf aq.normal ([AV.ak 1 n (aB z),AV.int IntKind.i64 (IntKind.i64.wrap ((k:Int)-1))],[]))
    (ah.leaf (aq.exit 0) ([AV.ak 1 n (aB z),AV.int IntKind.i64 (k:Int)],[]))))):=ag
theorem akP {n k:Nat} {z:Nat->Nat}:cJ T [] [] 30 je (behind (az je) [1,1,0]) ⟨[(0,.ak 1 n (aB z)),(3,.int .i64 k)],[],0⟩=
  some
 (ah.aj [(0:Int)<=0/\0<=(k:Int)/\(k:Int)<=(k:Int)/\(k:Int)<=(n:Int)]
  (ah.leaf aq.ret [AV.ak 1 ((k:Int).toNat-Int.toNat 0) fun i=>aB z (i+Int.toNat 0)])):=ag
theorem WQ {n:Nat} {z:Nat->Nat} (K:Nat) (pre:aF):aD P vm K [.ak 1 n (aB z)] pre ⟨.mag (val n z),[],[n<2^62,∀i,i<n->z i<2^32]⟩:=by
 refine kB hT QI rfl aW rfl (fun need c h0=>?_) K pre
 obtain⟨hn,hz⟩:n<2^62/\∀i,i<n->z i<2^32:=need
 refine ay.hole [1,1,0] ag (aG.bB hT bC hm 30 [0,3] Vx ag fun s' hv=>?_)
 refine ay.iS (i:=0) (y:=part (az je) [1,1,0,0,0]) ag (fun k:Nat=>⟨aE [0,3] [.ak 1 n (aB z),.int .i64 k],[],0⟩) (fun k=>k<=n/\∀i,k<=i->i<n->z i=0) id n
  (dF [] hv h0 rfl ⟨⟨rfl,aL rfl⟩,⟨rfl,aL rfl⟩,trivial⟩ trivial) ⟨aY,fun i h1 h2=>aa⟩ ?_
 rintro k ⟨hk,hzk⟩
 refine ay.bB hT bC hm 30 [0,3] ac1 ag ?_
 have fin:(k=0\/z (k-1)≠0)->∀s',bw [0,3] s'=some ([.ak 1 n (aB z),.int .i64 k],[])->aG P c je.ntmps (behind (az je) [1,1,0]) s' (Fin T je (.mag (val n z))):=by
  intro hk0 s' hv
  refine aG.weak ag (dF (vs:=[.ak 1 n (aB z),.int .i64 k]) (ps:=[]) (nx:=0) [] hv h0 rfl ⟨⟨rfl,aL rfl⟩,⟨rfl,aL rfl⟩,trivial⟩ trivial)
   (aG.fin hT bC hm 30 akP ag ⟨⟨aa,aa,aa,aa⟩,?_⟩)
  have e:val n z=val k z:=nN hk hzk
  refine mu (by rw[e,Fv (fun i hi=>hz i aa) hk0];simp) fun i hi=>?_
  have hi':i<k:=by simpa using hi
  rw[e,ry (fun j hj=>hz j aa) hi']
  rfl
 have hw:0<k->IntKind.i64.wrap ((k:Int)-1)=((k-1:Nat):Int):=fun h=>by rw[wrap_i64 aa aa];omega
 refine⟨fun hb=>?_,fun hb=>?_⟩
 ·have h1:0<k:=by simpa using hb
  rw[hw h1]
  refine⟨⟨hb,aa,by simp;omega⟩,fun hc s' hv=>?_,fun hc s' hv=>?_⟩
  ·refine⟨k-1,dF [] hv h0 rfl ⟨⟨rfl,aL rfl⟩,⟨rfl,aL rfl⟩,trivial⟩ trivial,⟨aa,fun i h1 h2=>?_⟩,by simp;omega⟩
   by_cases hi:i=k-1
   ·subst hi;simpa using hc
   ·exact hzk i aa h2
  ·exact fin (.inr (by simpa using hc)) s' hv
 ·have h1:k=0:=by simpa using hb
  refine⟨hb,fun hc=>by simp at hc,fun hc s' hv=>fin (.inl h1) s' hv⟩
def aeZ (N n:Nat):dw:=aK (.mag N) [n<2^62]
def G1:aX:=[(vm,bU (mm aeZ))]
theorem gT:bq P G1:=aH (cB (vW fun z n K hz need=>fun _=>WQ K [] ⟨need,hz⟩)) bC
end Go.Am.B
