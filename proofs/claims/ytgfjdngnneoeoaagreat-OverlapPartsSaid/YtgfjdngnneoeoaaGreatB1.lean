/- natural.trim. -/
import Derived.Test.YtgfjdngnneoeoaaGreatZ2
import Derived.Test.YtgfjdngnneoeoaaGreatNames
set_option linter.unusedVariables false
namespace Go.Am.B
open Go Go.Am.N AV Proofs.Tryz IntKind
theorem KB:aX 138 f138:=aM func138
theorem XP {n:Nat} {z:Nat->Nat}:aL T [] [] 30 [0,3] (before (aF f138) [1,1,0]) ⟨aS 0 [.ak 1 n (aA z)],[],0⟩=
  some (ag.leaf aq.normal ([AV.ak 1 n (aA z),AV.int .i64 (n:Int)],[])):=ah
theorem SX {n k:Nat} {z:Nat->Nat}:aL T [] [8,15] 30 [0,3] [part (aF f138) [1,1,0,0,0]] ⟨[(0,.ak 1 n (aA z)),(3,.int .i64 k)],[],0⟩=
  some
 (ag.fork (decide ((k:Int)>0))
  (ag.aj
   [decide ((k:Int)>0)=true,
    0<=i64.wrap ((k:Int)-1)/\(i64.wrap ((k:Int)-1)).toNat<n]
   (ag.fork (bif true then((z (i64.wrap ((k:Int)-1)).toNat):Int)==0 else false)
    (ag.leaf aq.normal ([AV.ak 1 n (aA z),AV.int .i64 (i64.wrap ((k:Int)-1))],[]))
    (ag.leaf (aq.exit 0) ([AV.ak 1 n (aA z),AV.int .i64 (k:Int)],[]))))
  (ag.aj [decide ((k:Int)>0)=false]
   (ag.fork false (ag.leaf aq.normal ([AV.ak 1 n (aA z),AV.int .i64 (i64.wrap ((k:Int)-1))],[]))
    (ag.leaf (aq.exit 0) ([AV.ak 1 n (aA z),AV.int .i64 (k:Int)],[]))))):=ah
theorem afh {n k:Nat} {z:Nat->Nat}:cP T [] [] 30 f138 (behind (aF f138) [1,1,0]) ⟨[(0,.ak 1 n (aA z)),(3,.int .i64 k)],[],0⟩=
  some
 (ag.aj [(0:Int)<=0/\0<=(k:Int)/\(k:Int)<=(k:Int)/\(k:Int)<=(n:Int)]
  (ag.leaf aq.ret [AV.ak 1 ((k:Int).toNat-Int.toNat 0) fun i=>aA z (i+Int.toNat 0)])):=ah
theorem Ya {n:Nat} {z:Nat->Nat} (K:Nat) (pre:aD):aN P 138 K [.ak 1 n (aA z)] pre ⟨.mag (val n z),[],[n<2^62,∀i,i<n->z i<2^32]⟩:=by
 refine jN hT KB rfl aW rfl (fun need c h0=>?_) K pre
 obtain⟨hn,hz⟩:n<2^62/\∀i,i<n->z i<2^32:=need
 refine ay.hole [1,1,0] ah (aI.bH hT bD hm 30 [0,3] XP ah fun s' hv=>?_)
 refine ay.ji (i:=0) (y:=part (aF f138) [1,1,0,0,0]) ah (fun k:Nat=>⟨aG [0,3] [.ak 1 n (aA z),.int .i64 k],[],0⟩) (fun k=>k<=n/\∀i,k<=i->i<n->z i=0) id n
  (dI [] hv h0 rfl ⟨aP,aP,trivial⟩ trivial) ⟨aR,fun i h1 h2=>aa⟩ ?_
 rintro k ⟨hk,hzk⟩
 refine ay.bH hT bD hm 30 [0,3] SX ah ?_
 have fin:(k=0\/z (k-1)≠0)->∀s',bB [0,3] s'=some ([.ak 1 n (aA z),.int .i64 k],[])->aI P c f138.ntmps (behind (aF f138) [1,1,0]) s' (Fin T f138 (.mag (val n z))):=by
  intro hk0 s' hv
  refine aI.weak ah (dI (vs:=[.ak 1 n (aA z),.int .i64 k]) (ps:=[]) (nx:=0) [] hv h0 rfl ⟨aP,aP,trivial⟩ trivial)
   (aI.fin hT bD hm 30 afh ah ⟨⟨aa,aa,aa,aa⟩,?_⟩)
  have e:val n z=val k z:=m7 hk hzk
  refine lz (by rw[e,Aa (fun i hi=>hz i aa) hk0];simp) fun i hi=>?_
  have hi':i<k:=by simpa using hi
  rw[e,o5 (fun j hj=>hz j aa) hi']
  rfl
 have hw:0<k->i64.wrap ((k:Int)-1)=((k-1:Nat):Int):=fun h=>by rw[wrap_i64 aa aa];omega
 refine⟨fun hb=>?_,fun hb=>?_⟩
 ·have h1:0<k:=by simpa using hb
  rw[hw h1]
  refine⟨⟨hb,aa,by simp;omega⟩,fun hc s' hv=>?_,fun hc s' hv=>?_⟩
  ·refine⟨k-1,dI [] hv h0 rfl ⟨aP,aP,trivial⟩ trivial,⟨aa,fun i h1 h2=>?_⟩,by simp;omega⟩
   by_cases hi:i=k-1
   ·subst hi;simpa using hc
   ·exact hzk i aa h2
  ·exact fin (.inr (by simpa using hc)) s' hv
 ·have h1:k=0:=by simpa using hb
  refine⟨hb,fun hc=>by simp at hc,fun hc s' hv=>fin (.inl h1) s' hv⟩
def aaK (N n:Nat):dw:=aH (.mag N) [n<2^62]
def G1:aV:=[(138,bX (mh aaK))]
theorem gX:bg P G1:=aE (cM (tV fun z n K hz need=>fun _=>Ya K [] ⟨need,hz⟩)) bD
end Go.Am.B
