/- natural.trim. -/
import Derived.Test.YtnniljlepppdpaaGreatZ2
import Derived.Test.YtnniljlepppdpaaGreatNames
set_option linter.unusedVariables false
namespace Go.Am.B
open Go Go.Am.N AV
theorem NZ:aT P wI jm (ay jm):=aU Proofs.Tryz.func253 ag ag ag
theorem amu {n:Nat} {z:Nat->Nat}:aG T [] [] 30 [0,3] (before (ay jm) [1,1,0]) ⟨aP 0 [.aq 1 n (aD z)],[],0⟩=
  some (ah.leaf ax.normal ([AV.aq 1 n (aD z),AV.int .i64 (n:Int)],[])):=ag
theorem aou {n k:Nat} {z:Nat->Nat}:aG T [] [8,15] 30 [0,3] [part (ay jm) [1,1,0,0,0]] ⟨[(0,.aq 1 n (aD z)),(3,.int .i64 k)],[],0⟩=
  some
 (ah.fork (decide ((k:Int)>0))
  (ah.aj
   [decide ((k:Int)>0)=true,
    0<=IntKind.i64.wrap ((k:Int)-1)/\(IntKind.i64.wrap ((k:Int)-1)).toNat<n]
   (ah.fork (bif true then((z (IntKind.i64.wrap ((k:Int)-1)).toNat):Int)==0 else false)
    (ah.leaf ax.normal ([AV.aq 1 n (aD z),AV.int .i64 (IntKind.i64.wrap ((k:Int)-1))],[]))
    (ah.leaf (ax.exit 0) ([AV.aq 1 n (aD z),AV.int .i64 (k:Int)],[]))))
  (ah.aj [decide ((k:Int)>0)=false]
   (ah.fork false (ah.leaf ax.normal ([AV.aq 1 n (aD z),AV.int .i64 (IntKind.i64.wrap ((k:Int)-1))],[]))
    (ah.leaf (ax.exit 0) ([AV.aq 1 n (aD z),AV.int .i64 (k:Int)],[]))))):=ag
theorem anj {n k:Nat} {z:Nat->Nat}:cj T [] [] 30 jm (behind (ay jm) [1,1,0]) ⟨[(0,.aq 1 n (aD z)),(3,.int .i64 k)],[],0⟩=
  some
 (ah.aj [(0:Int)<=0/\0<=(k:Int)/\(k:Int)<=(k:Int)/\(k:Int)<=(n:Int)]
  (ah.leaf ax.ret [AV.aq 1 ((k:Int).toNat-Int.toNat 0) fun i=>aD z (i+Int.toNat 0)])):=ag
theorem ael {n:Nat} {z:Nat->Nat} (K:Nat) (pre:aE):aQ P wI K [.aq 1 n (aD z)] pre ⟨.mag (val n z),[],[n<2^62,∀i,i<n->z i<2^32]⟩:=by
 refine j9 hT NZ rfl aX rfl (fun need c h0=>?_) K pre
 obtain⟨hn,hz⟩:n<2^62/\∀i,i<n->z i<2^32:=need
 refine au.hole [1,1,0] ag (aH.bC hT bz hm 30 [0,3] amu ag fun s' hv=>?_)
 refine au.iZ (i:=0) (y:=part (ay jm) [1,1,0,0,0]) ag (fun k:Nat=>⟨aB [0,3] [.aq 1 n (aD z),.int .i64 k],[],0⟩) (fun k=>k<=n/\∀i,k<=i->i<n->z i=0) id n
  (dH [] hv h0 rfl ⟨aM,aM,trivial⟩ trivial) ⟨aY,fun i h1 h2=>aa⟩ ?_
 rintro k ⟨hk,hzk⟩
 refine au.bC hT bz hm 30 [0,3] aou ag ?_
 have fin:(k=0\/z (k-1)≠0)->∀s',bA [0,3] s'=some ([.aq 1 n (aD z),.int .i64 k],[])->aH P c jm.ntmps (behind (ay jm) [1,1,0]) s' (Fin T jm (.mag (val n z))):=by
  intro hk0 s' hv
  refine aH.weak ag (dH (vs:=[.aq 1 n (aD z),.int .i64 k]) (ps:=[]) (nx:=0) [] hv h0 rfl ⟨aM,aM,trivial⟩ trivial)
   (aH.fin hT bz hm 30 anj ag ⟨⟨aa,aa,aa,aa⟩,?_⟩)
  have e:val n z=val k z:=oJ hk hzk
  refine me (by rw[e,Eg (fun i hi=>hz i aa) hk0];simp) fun i hi=>?_
  have hi':i<k:=by simpa using hi
  rw[e,qb (fun j hj=>hz j aa) hi']
  rfl
 have hw:0<k->IntKind.i64.wrap ((k:Int)-1)=((k-1:Nat):Int):=fun h=>by rw[wrap_i64 aa aa];omega
 refine⟨fun hb=>?_,fun hb=>?_⟩
 ·have h1:0<k:=by simpa using hb
  rw[hw h1]
  refine⟨⟨hb,aa,by simp;omega⟩,fun hc s' hv=>?_,fun hc s' hv=>?_⟩
  ·refine⟨k-1,dH [] hv h0 rfl ⟨aM,aM,trivial⟩ trivial,⟨aa,fun i h1 h2=>?_⟩,by simp;omega⟩
   by_cases hi:i=k-1
   ·subst hi;simpa using hc
   ·exact hzk i aa h2
  ·exact fin (.inr (by simpa using hc)) s' hv
 ·have h1:k=0:=by simpa using hb
  refine⟨hb,fun hc=>by simp at hc,fun hc s' hv=>fin (.inl h1) s' hv⟩
def aeG (N n:Nat):dz:=aJ (.mag N) [n<2^62]
def G1:bf:=[(wI,bY (mQ aeG))]
theorem gR:bu P G1:=aI (cJ (uL fun z n K hz need=>fun _=>ael K [] ⟨need,hz⟩)) bz
end Go.Am.B
