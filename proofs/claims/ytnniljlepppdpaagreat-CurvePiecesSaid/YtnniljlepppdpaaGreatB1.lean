/- natural.trim. -/
import Derived.Test.YtnniljlepppdpaaGreatZ2
import Derived.Test.YtnniljlepppdpaaGreatNames
set_option linter.unusedVariables false
namespace Go.Am.B
open Go Go.Am.N AV
theorem QZ:aU P uK iG (az iG):=aT Proofs.Tryz.func253 ah ah ah
theorem RL {n:Nat} {z:Nat->Nat}:aJ T [] [] 30 [0,3] (before (az iG) [1,1,0]) ⟨aQ 0 [.aq 1 n (aB z)],[],0⟩=
  some (ag.leaf ak.normal ([AV.aq 1 n (aB z),AV.int IntKind.i64 (n:Int)],[])):=ah
theorem XM {n k:Nat} {z:Nat->Nat}:aJ T [] [8,15] 30 [0,3] [part (az iG) [1,1,0,0,0]] ⟨[(0,.aq 1 n (aB z)),(3,.int .i64 k)],[],0⟩=
  some
 (ag.fork (decide ((k:Int)>0))
  (ag.aj
   [decide ((k:Int)>0)=true,
    0<=IntKind.i64.wrap ((k:Int)-1)/\(IntKind.i64.wrap ((k:Int)-1)).toNat<n]
   (ag.fork (bif true then((z (IntKind.i64.wrap ((k:Int)-1)).toNat):Int)==0 else false)
    (ag.leaf ak.normal ([AV.aq 1 n (aB z),AV.int IntKind.i64 (IntKind.i64.wrap ((k:Int)-1))],[]))
    (ag.leaf (ak.exit 0) ([AV.aq 1 n (aB z),AV.int IntKind.i64 (k:Int)],[]))))
  (ag.aj [decide ((k:Int)>0)=false]
   (ag.fork false (ag.leaf ak.normal ([AV.aq 1 n (aB z),AV.int IntKind.i64 (IntKind.i64.wrap ((k:Int)-1))],[]))
    (ag.leaf (ak.exit 0) ([AV.aq 1 n (aB z),AV.int IntKind.i64 (k:Int)],[]))))):=ah
theorem V0 {n k:Nat} {z:Nat->Nat}:cJ T [] [] 30 iG (behind (az iG) [1,1,0]) ⟨[(0,.aq 1 n (aB z)),(3,.int .i64 k)],[],0⟩=
  some
 (ag.aj [(0:Int)<=0/\0<=(k:Int)/\(k:Int)<=(k:Int)/\(k:Int)<=(n:Int)]
  (ag.leaf ak.ret [AV.aq 1 ((k:Int).toNat-Int.toNat 0) fun i=>aB z (i+Int.toNat 0)])):=ah
theorem af8 {n:Nat} {z:Nat->Nat} (K:Nat) (pre:aE):aD P uK K [.aq 1 n (aB z)] pre ⟨.mag (val n z),[],[n<2^62,∀i,i<n->z i<2^32]⟩:=by
 refine jL hT QZ rfl aW rfl (fun need c h0=>?_) K pre
 obtain⟨hn,hz⟩:n<2^62/\∀i,i<n->z i<2^32:=need
 refine ay.hole [1,1,0] ah (aG.bz hT bE hm 30 [0,3] RL ah fun s' hv=>?_)
 refine ay.iz (i:=0) (y:=part (az iG) [1,1,0,0,0]) ah (fun k:Nat=>⟨aF [0,3] [.aq 1 n (aB z),.int .i64 k],[],0⟩) (fun k=>k<=n/\∀i,k<=i->i<n->z i=0) id n
  (dr [] hv h0 rfl ⟨⟨rfl,aK rfl⟩,⟨rfl,aK rfl⟩,trivial⟩ trivial) ⟨bp,fun i h1 h2=>aa⟩ ?_
 rintro k ⟨hk,hzk⟩
 refine ay.bz hT bE hm 30 [0,3] XM ah ?_
 have fin:(k=0\/z (k-1)≠0)->∀s',bk [0,3] s'=some ([.aq 1 n (aB z),.int .i64 k],[])->aG P c iG.ntmps (behind (az iG) [1,1,0]) s' (Fin T iG (.mag (val n z))):=by
  intro hk0 s' hv
  refine aG.weak ah (dr (vs:=[.aq 1 n (aB z),.int .i64 k]) (ps:=[]) (nx:=0) [] hv h0 rfl ⟨⟨rfl,aK rfl⟩,⟨rfl,aK rfl⟩,trivial⟩ trivial)
   (aG.fin hT bE hm 30 V0 ah ⟨⟨aa,aa,aa,aa⟩,?_⟩)
  have e:val n z=val k z:=nH hk hzk
  refine lD (by rw[e,AA (fun i hi=>hz i aa) hk0];simp) fun i hi=>?_
  have hi':i<k:=by simpa using hi
  rw[e,pU (fun j hj=>hz j aa) hi']
  rfl
 have hw:0<k->IntKind.i64.wrap ((k:Int)-1)=((k-1:Nat):Int):=fun h=>by rw[wrap_i64 aa aa];omega
 refine⟨fun hb=>?_,fun hb=>?_⟩
 ·have h1:0<k:=by simpa using hb
  rw[hw h1]
  refine⟨⟨hb,aa,by simp;omega⟩,fun hc s' hv=>?_,fun hc s' hv=>?_⟩
  ·refine⟨k-1,dr [] hv h0 rfl ⟨⟨rfl,aK rfl⟩,⟨rfl,aK rfl⟩,trivial⟩ trivial,⟨aa,fun i h1 h2=>?_⟩,by simp;omega⟩
   by_cases hi:i=k-1
   ·subst hi;simpa using hc
   ·exact hzk i aa h2
  ·exact fin (.inr (by simpa using hc)) s' hv
 ·have h1:k=0:=by simpa using hb
  refine⟨hb,fun hc=>by simp at hc,fun hc s' hv=>fin (.inl h1) s' hv⟩
def aiu (N n:Nat):cZ:=aL (.mag N) [n<2^62]
def G1:aV:=[(uK,bM (lN aiu))]
theorem gy:bn P G1:=aI (ct (ve fun z n K hz need=>fun _=>af8 K [] ⟨need,hz⟩)) bE
end Go.Am.B
