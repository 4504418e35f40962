/- natural.trim. -/
import Derived.Test.YtolopdkjjlfgjaaGreatZ2
import Derived.Test.YtolopdkjjlfgjaaGreatNames
set_option linter.unusedVariables false
namespace Go.Am.B
open Go Go.Am.N AV Proofs.Tryz IntKind
theorem Ik:br 160 f160:=bu func160
theorem XX {n:Nat} {z:Nat->Nat}:aH T [] [] 30 [0,3] (before (aI f160) [1,1,0]) ⟨aU 0 [.ak 1 n (aA z)],[],0⟩=
  some (af.leaf aq.normal ([AV.ak 1 n (aA z),AV.int .i64 (n:Int)],[])):=ah
theorem Rh {n k:Nat} {z:Nat->Nat}:aH T [] [8,15] 30 [0,3] [part (aI f160) [1,1,0,0,0]] ⟨[(0,.ak 1 n (aA z)),(3,.int .i64 k)],[],0⟩=
  some
 (af.fork (decide ((k:Int)>0))
  (af.aj
   [decide ((k:Int)>0)=true,
    0<=i64.wrap ((k:Int)-1)/\(i64.wrap ((k:Int)-1)).toNat<n]
   (af.fork (bif true then((z (i64.wrap ((k:Int)-1)).toNat):Int)==0 else false)
    (af.leaf aq.normal ([AV.ak 1 n (aA z),AV.int .i64 (i64.wrap ((k:Int)-1))],[]))
    (af.leaf (aq.exit 0) ([AV.ak 1 n (aA z),AV.int .i64 (k:Int)],[]))))
  (af.aj [decide ((k:Int)>0)=false]
   (af.fork false (af.leaf aq.normal ([AV.ak 1 n (aA z),AV.int .i64 (i64.wrap ((k:Int)-1))],[]))
    (af.leaf (aq.exit 0) ([AV.ak 1 n (aA z),AV.int .i64 (k:Int)],[]))))):=ah
theorem XY {n k:Nat} {z:Nat->Nat}:cR T [] [] 30 f160 (behind (aI f160) [1,1,0]) ⟨[(0,.ak 1 n (aA z)),(3,.int .i64 k)],[],0⟩=
  some
 (af.aj [(0:Int)<=0/\0<=(k:Int)/\(k:Int)<=(k:Int)/\(k:Int)<=(n:Int)]
  (af.leaf aq.ret [AV.ak 1 ((k:Int).toNat-Int.toNat 0) fun i=>aA z (i+Int.toNat 0)])):=ah
theorem aa2 {n:Nat} {z:Nat->Nat} (K:Nat) (pre:aE):aS P 160 K [.ak 1 n (aA z)] pre ⟨.mag (val n z),[],[n<2^62,∀i,i<n->z i<2^32]⟩:=by
 refine kI hT Ik rfl aZ rfl (fun need c h0=>?_) K pre
 obtain⟨hn,hz⟩:n<2^62/\∀i,i<n->z i<2^32:=need
 refine au.hole [1,1,0] ah (aF.bL hT cG hm 30 [0,3] XX ah fun s' hv=>?_)
 refine au.iX (i:=0) (y:=part (aI f160) [1,1,0,0,0]) ah (fun k:Nat=>⟨aB [0,3] [.ak 1 n (aA z),.int .i64 k],[],0⟩) (fun k=>k<=n/\∀i,k<=i->i<n->z i=0) id n
  (eA [] hv h0 rfl ⟨aP,aP,trivial⟩ trivial) ⟨aT,fun i h1 h2=>aa⟩ ?_
 rintro k ⟨hk,hzk⟩
 refine au.bL hT cG hm 30 [0,3] Rh ah ?_
 have fin:(k=0\/z (k-1)≠0)->∀s',bA [0,3] s'=some ([.ak 1 n (aA z),.int .i64 k],[])->aF P c f160.ntmps (behind (aI f160) [1,1,0]) s' (Fin T f160 (.mag (val n z))):=by
  intro hk0 s' hv
  refine aF.weak ah (eA (vs:=[.ak 1 n (aA z),.int .i64 k]) (ps:=[]) (nx:=0) [] hv h0 rfl ⟨aP,aP,trivial⟩ trivial)
   (aF.fin hT cG hm 30 XY ah ⟨⟨aa,aa,aa,aa⟩,?_⟩)
  have e:val n z=val k z:=oG hk hzk
  refine kY (by rw[e,B1 (fun i hi=>hz i aa) hk0];simp) fun i hi=>?_
  have hi':i<k:=by simpa using hi
  rw[e,qe (fun j hj=>hz j aa) hi']
  rfl
 have hw:0<k->i64.wrap ((k:Int)-1)=((k-1:Nat):Int):=fun h=>by rw[wrap_i64 aa aa];omega
 refine⟨fun hb=>?_,fun hb=>?_⟩
 ·have h1:0<k:=by simpa using hb
  rw[hw h1]
  refine⟨⟨hb,aa,by simp;omega⟩,fun hc s' hv=>?_,fun hc s' hv=>?_⟩
  ·refine⟨k-1,eA [] hv h0 rfl ⟨aP,aP,trivial⟩ trivial,⟨aa,fun i h1 h2=>?_⟩,by simp;omega⟩
   by_cases hi:i=k-1
   ·subst hi;simpa using hc
   ·exact hzk i aa h2
  ·exact fin (.inr (by simpa using hc)) s' hv
 ·have h1:k=0:=by simpa using hb
  refine⟨hb,fun hc=>by simp at hc,fun hc s' hv=>fin (.inl h1) s' hv⟩
def adP (N n:Nat):dZ:=aM (.mag N) [n<2^62]
def G1:bz:=[(160,cw (nj adP))]
theorem iM:bU P G1:=aL (dc (v7 fun z n K hz need=>fun _=>aa2 K [] ⟨need,hz⟩)) cG
end Go.Am.B
